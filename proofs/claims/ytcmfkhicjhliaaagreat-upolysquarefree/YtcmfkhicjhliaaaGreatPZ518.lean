/- Lemmas, part 19 of 23. No condition. -/
import Derived.Test.YtcmfkhicjhliaaaGreatPZ517
set_option maxRecDepth 65536
set_option linter.unusedSimpArgs false
set_option linter.unusedVariables false
set_option linter.unusedSectionVars false
namespace Go.AM
open Go.Proofs
theorem vo (a:List Tm) (v:Nat) (hv:v<4) (hl:a.length<=1099511627776):Fn Tryz.prog 44 [iM a,iN v] [iN (gu a v)]:=by
 refine aJ (fn:=Tryz.f44) ?_;simp -dsimp only[go_sem];refine a8 [(5,21)] [] [] (fun n τ β ε=>∃ i:Nat,n=a.length-i/\i<=a.length/\τ 6 = .i (iN i)/\τ 5 = .i (iN (gu (a.take i) v)))
  (fun e τ β ε=>e = .exit 0/\τ 5 = .i (iN (gu a v))) a.length ?_ ?_ ?_
 ·exact⟨0,aw,aw,rfl,rfl⟩
 ·rintro n τ β ε π hK hKB hKE ⟨i,hn,hi,h6,h5⟩;have k0:τ 0 = .i (iM a):=(hK 0 rfl).trans rfl;have k1:τ 1 = .i (iN v):=(hK 1 rfl).trans rfl;by_cases hlt:i<a.length
  ·have dA:decide ((i:Int)<(a.length:Int))=true:=aF aw;have hg:a[i]?=some a[i]:=by simp[hlt]
   have hd:gu (a.take (i+1)) v=max (gu (a.take i) v) (a[i].1.at v):=by rw[aq hlt,wM]
   obtain rfl|rfl|rfl|rfl:v=0\/v=1\/v=2\/v=3:=aw
   ·have k1':τ 1 = .i (iN 0):=k1;simp -dsimp only[go_sem,h6,h5,k0,k1',dA,az,Int.reduceToNat,Int.reduceLE,aC];refine aP hg ?_;simp -dsimp only[go_sem,h6,h5,k0,k1',dA,Int.reduceToNat,Int.reduceLE,aC]
    repeat(refine And.intro aw ?_)
    refine again (a.length-(i+1)) aw ⟨(aA hK),hKB,hKE,i+1,rfl,aw,rfl,?_⟩;simp -dsimp only[go_sem,hd];rfl
   ·have k1':τ 1 = .i (iN 1):=k1;simp -dsimp only[go_sem,h6,h5,k0,k1',dA,az,Int.reduceToNat,Int.reduceLE,aC];refine aP hg ?_;simp -dsimp only[go_sem,h6,h5,k0,k1',dA,Int.reduceToNat,Int.reduceLE,aC]
    repeat(refine And.intro aw ?_)
    refine again (a.length-(i+1)) aw ⟨(aA hK),hKB,hKE,i+1,rfl,aw,rfl,?_⟩;simp -dsimp only[go_sem,hd];rfl
   ·have k1':τ 1 = .i (iN 2):=k1;simp -dsimp only[go_sem,h6,h5,k0,k1',dA,az,Int.reduceToNat,Int.reduceLE,aC];refine aP hg ?_;simp -dsimp only[go_sem,h6,h5,k0,k1',dA,Int.reduceToNat,Int.reduceLE,aC]
    repeat(refine And.intro aw ?_)
    refine again (a.length-(i+1)) aw ⟨(aA hK),hKB,hKE,i+1,rfl,aw,rfl,?_⟩;simp -dsimp only[go_sem,hd];rfl
   ·have k1':τ 1 = .i (iN 3):=k1;simp -dsimp only[go_sem,h6,h5,k0,k1',dA,az,Int.reduceToNat,Int.reduceLE,aC];refine aP hg ?_;simp -dsimp only[go_sem,h6,h5,k0,k1',dA,Int.reduceToNat,Int.reduceLE,aC]
    repeat(refine And.intro aw ?_)
    refine again (a.length-(i+1)) aw ⟨(aA hK),hKB,hKE,i+1,rfl,aw,rfl,?_⟩;simp -dsimp only[go_sem,hd];rfl
  ·have dA:decide ((i:Int)<(a.length:Int))=false:=aG aw;obtain rfl:i=a.length:=aw;rw[List.take_length]at h5;simp -dsimp only[go_sem,h6,k0,dA,az];exact⟨(aA hK),hKB,hKE,h5⟩
 ·rintro e τ β ε π hK hKB hKE ⟨rfl,h5⟩;simp -dsimp only[go_sem,h5]
theorem eU (a:List Tm) (t:Tm) (v k:Nat):cH (a++[t]) v k=cH a v k++(if t.1.at v=(k:Int)then[(t.1.to v 0,t.2)]else[]):=by
 unfold cH;rw[List.filter_append,List.map_append];by_cases h:t.1.at v=(k:Int)<;>simp[h]
theorem Dj (a:List Tm) (v k:Nat) (hv:v<4) (hl:a.length<=1048576):Fn Tryz.prog 172 [iM a,iN v,iN k] [iM (cH a v k)]:=by
 refine aJ (fn:=Tryz.f172) ?_;simp -dsimp only[go_sem];refine cv 7 10 8 (rs:=[]) rfl au ?_;refine bt [(7,9),(11,33)] [(9,9)] [(10,10),(33,33)] (fun n τ β ε=>∃ i:Nat,n=a.length-i/\i<=a.length/\τ 8 = .i (iN i)/\Own 8 ((cH (a.take i) v k).map eT) 7 10 τ ε)
  (fun e τ β ε=>e = .exit 0/\Own 8 ((cH a v k).map eT) 7 10 τ ε) a.length ?_ ?_ ?_
 ·exact⟨0,aw,aw,rfl,Own.mk (g:=1) (mm:=false) aw rfl rfl rfl⟩
 ·rintro n τ β ε π hK hKB hKE ⟨i,hn,hi,h8,g,mm,hg0,h7,f10⟩;have hcl:(cH (a.take i) v k).length<=i:=by
   unfold cH;rw[az];exact ax (List.length_filter_le _ _) ar
  rw[az]at h7;have h7':=h7;have k0:τ 0 = .i (iM a):=(hK 0 rfl).trans rfl;have k1:τ 1 = .i (iN v):=(hK 1 rfl).trans rfl;have k2:τ 2 = .i (iN k):=(hK 2 rfl).trans rfl;by_cases hlt:i<a.length
  ·have dA:decide ((i:Int)<(a.length:Int))=true:=aF aw;have hg:a[i]?=some a[i]:=by simp[hlt]
   obtain rfl|rfl|rfl|rfl:v=0\/v=1\/v=2\/v=3:=aw
   ·have k1':τ 1 = .i (iN 0):=k1;simp -dsimp only[go_sem,h8,k0,k1',k2,dA,az,Int.reduceToNat,Int.reduceLE,aC];refine aP hg ?_;simp -dsimp only[go_sem,h8,k0,k1',k2,dA,Int.reduceToNat,Int.reduceLE,aC];by_cases hc:a[i].1.at 0=k
    ·have ec:decide (a[i].1.a=(k:Int))=true:=aF hc;simp -dsimp only[go_sem,ec,h7',f10,hg0,k1',h8,Int.reduceToNat,Int.reduceLE,aC]
     repeat(refine And.intro aw ?_)
     refine be (a.length-(i+1)) 7 33 10 aw rfl rfl aw aH ⟨(aA hK),(aA hKB),(aA hKE),i+1,rfl,aw,rfl,?_⟩;refine Own.mk2 (Nat.succ_pos _) (by simp -dsimp only[go_sem];rfl) (by simp -dsimp only[go_sem];rfl) au ?_;rw[aq hlt,eU,if_pos hc,List.map_append];rfl
    ·have ec:decide (a[i].1.a=(k:Int))=false:=aG hc;simp -dsimp only[go_sem,ec,h8,Int.reduceToNat,Int.reduceLE,aC]
     repeat(refine And.intro aw ?_)
     refine again (a.length-(i+1)) aw ⟨(aA hK),(aA hKB),hKE,i+1,rfl,aw,rfl,?_⟩;rw[aq hlt,eU,if_neg hc,List.append_nil];exact Own.mk hg0 (by simp -dsimp only[go_sem];exact h7) rfl f10
   ·have k1':τ 1 = .i (iN 1):=k1;simp -dsimp only[go_sem,h8,k0,k1',k2,dA,az,Int.reduceToNat,Int.reduceLE,aC];refine aP hg ?_;simp -dsimp only[go_sem,h8,k0,k1',k2,dA,Int.reduceToNat,Int.reduceLE,aC];by_cases hc:a[i].1.at 1=k
    ·have ec:decide (a[i].1.b=(k:Int))=true:=aF hc;simp -dsimp only[go_sem,ec,h7',f10,hg0,k1',h8,Int.reduceToNat,Int.reduceLE,aC]
     repeat(refine And.intro aw ?_)
     refine be (a.length-(i+1)) 7 33 10 aw rfl rfl aw aH ⟨(aA hK),(aA hKB),(aA hKE),i+1,rfl,aw,rfl,?_⟩;refine Own.mk2 (Nat.succ_pos _) (by simp -dsimp only[go_sem];rfl) (by simp -dsimp only[go_sem];rfl) au ?_;rw[aq hlt,eU,if_pos hc,List.map_append];rfl
    ·have ec:decide (a[i].1.b=(k:Int))=false:=aG hc;simp -dsimp only[go_sem,ec,h8,Int.reduceToNat,Int.reduceLE,aC]
     repeat(refine And.intro aw ?_)
     refine again (a.length-(i+1)) aw ⟨(aA hK),(aA hKB),hKE,i+1,rfl,aw,rfl,?_⟩;rw[aq hlt,eU,if_neg hc,List.append_nil];exact Own.mk hg0 (by simp -dsimp only[go_sem];exact h7) rfl f10
   ·have k1':τ 1 = .i (iN 2):=k1;simp -dsimp only[go_sem,h8,k0,k1',k2,dA,az,Int.reduceToNat,Int.reduceLE,aC];refine aP hg ?_;simp -dsimp only[go_sem,h8,k0,k1',k2,dA,Int.reduceToNat,Int.reduceLE,aC];by_cases hc:a[i].1.at 2=k
    ·have ec:decide (a[i].1.c=(k:Int))=true:=aF hc;simp -dsimp only[go_sem,ec,h7',f10,hg0,k1',h8,Int.reduceToNat,Int.reduceLE,aC]
     repeat(refine And.intro aw ?_)
     refine be (a.length-(i+1)) 7 33 10 aw rfl rfl aw aH ⟨(aA hK),(aA hKB),(aA hKE),i+1,rfl,aw,rfl,?_⟩;refine Own.mk2 (Nat.succ_pos _) (by simp -dsimp only[go_sem];rfl) (by simp -dsimp only[go_sem];rfl) au ?_;rw[aq hlt,eU,if_pos hc,List.map_append];rfl
    ·have ec:decide (a[i].1.c=(k:Int))=false:=aG hc;simp -dsimp only[go_sem,ec,h8,Int.reduceToNat,Int.reduceLE,aC]
     repeat(refine And.intro aw ?_)
     refine again (a.length-(i+1)) aw ⟨(aA hK),(aA hKB),hKE,i+1,rfl,aw,rfl,?_⟩;rw[aq hlt,eU,if_neg hc,List.append_nil];exact Own.mk hg0 (by simp -dsimp only[go_sem];exact h7) rfl f10
   ·have k1':τ 1 = .i (iN 3):=k1;simp -dsimp only[go_sem,h8,k0,k1',k2,dA,az,Int.reduceToNat,Int.reduceLE,aC];refine aP hg ?_;simp -dsimp only[go_sem,h8,k0,k1',k2,dA,Int.reduceToNat,Int.reduceLE,aC];by_cases hc:a[i].1.at 3=k
    ·have ec:decide (a[i].1.d=(k:Int))=true:=aF hc;simp -dsimp only[go_sem,ec,h7',f10,hg0,k1',h8,Int.reduceToNat,Int.reduceLE,aC]
     repeat(refine And.intro aw ?_)
     refine be (a.length-(i+1)) 7 33 10 aw rfl rfl aw aH ⟨(aA hK),(aA hKB),(aA hKE),i+1,rfl,aw,rfl,?_⟩;refine Own.mk2 (Nat.succ_pos _) (by simp -dsimp only[go_sem];rfl) (by simp -dsimp only[go_sem];rfl) au ?_;rw[aq hlt,eU,if_pos hc,List.map_append];rfl
    ·have ec:decide (a[i].1.d=(k:Int))=false:=aG hc;simp -dsimp only[go_sem,ec,h8,Int.reduceToNat,Int.reduceLE,aC]
     repeat(refine And.intro aw ?_)
     refine again (a.length-(i+1)) aw ⟨(aA hK),(aA hKB),hKE,i+1,rfl,aw,rfl,?_⟩;rw[aq hlt,eU,if_neg hc,List.append_nil];exact Own.mk hg0 (by simp -dsimp only[go_sem];exact h7) rfl f10
  ·have dA:decide ((i:Int)<(a.length:Int))=false:=aG aw;obtain rfl:i=a.length:=aw;rw[List.take_length]at h7 f10;simp -dsimp only[go_sem,h8,k0,dA,az];exact⟨(aA hK),hKB,hKE,Own.mk hg0 h7 au f10⟩
 ·rintro e τ β ε π hK hKB hKE ⟨rfl,g,mm,hg,h5,h9⟩;rw[az]at h5;refine⟨_,bA.refl _,?_⟩;simp -dsimp only[go_sem,h5,h9,hg]
end Go.AM
namespace Go.AM
open Alg
open Go.Proofs
def Ex.zsub (e f:Ex) (i:Nat):Ex:=⟨if 0<i then e.a-f.a else 0,if 1<i then e.b-f.b else 0,if 2<i then e.c-f.c else 0,if 3<i then e.d-f.d else 0⟩
set_option maxHeartbeats 1000000 in
theorem vn {p q:PQ} {h k:Nat} (hp:am h p) (hq:am k q) (hq0:q≠0) (hb:h+(aa p+2)*(k+1)+k<=137438953000) (sp:aa p<=524288) (sq:aa q<=524288):Fn Tryz.prog 158 [iUp p,iUp q] (u4 p q):=by
 obtain⟨Q,hQ⟩:=gy hq0;have lQ:(U q).length=Q.length+1:=by rw[hQ];rfl
 have cQ:(U q)[0]?=some (⟨((aa q-1:Nat):Int),0,0,0⟩,lc q):=by rw[hQ];rfl
 have hq1:=aR hq0;have hlq:=bN hq0;refine aJ (fn:=Tryz.f158) ?_;have e1:decide (((U q).length:Int)=0)=false:=by rw[lQ];exact aG aw
 simp -dsimp only[go_sem,e1,az];refine cv 6 14 8 (rs:=[]) rfl au ?_;refine bt [(4,9),(16,66)] [(8,8)] [(61,61),(14,14)] (fun n τ β ε=>∃(r s:PQ) (L:List Tm) (j:Nat),n=aa r/\p=s*q+r/\Cn L/\toP L=s/\(∀ t∈L,(aa r:Int)-aa q<t.1.a)/\L.length+aa r<=aa p/\am (h+j*(k+1)) r/\j+aa r<=aa p /\
   τ 7 = .i (iUp r)/\Own 8 (L.map eT) 6 14 τ ε)
  (fun e τ β ε=>(e = .exit 0/\∃(s:PQ) (L:List Tm),p=s*q/\Cn L/\toP L=s/\L.length<=aa p/\Own 8 (L.map eT) 6 14 τ ε) \/
   (e = .ret/\u4 p q=[iM [],iB false]/\τ 4 = .fl []/\τ 5 = .i (.c (.v (.bool false))))) (aa p) ?_ ?_ ?_
 ·exact⟨p,0,[],0,rfl,by rw[zero_mul,zero_add],⟨List.Pairwise.nil,au,by intro t ht;simp at ht⟩,rfl,au,au,by simpa using hp,aw,rfl,Own.mk (g:=1) (mm:=false) aw rfl rfl rfl⟩
 ·rintro n τ β ε π hK hKB hKE ⟨r,s,L,j,hn,he,hL,hLs,hlt,hll,hr,hj,h0,g,mm,hg,h6,hrow⟩;have h6':τ 6 = .sl 14 g L.length:=by rw[h6,az]
  have k1:τ 1 = .i (iUp q):=(hK 1 rfl).trans rfl;by_cases hr0:r=0
  ·have hA:¬ (0:Int)<((U r).length:Int):=by rw[hr0,cq];simp
   simp -dsimp only[go_sem,h0,hA,az];exact⟨(aA hK),hKB,hKE,s,L,by rw[he,hr0,add_zero],hL,hLs,aw,Own.mk hg h6' au hrow⟩
  ·obtain⟨R,hR⟩:=gy hr0;have lR:(U r).length=R.length+1:=by rw[hR];rfl
   have cR:(U r)[0]?=some (⟨((aa r-1:Nat):Int),0,0,0⟩,lc r):=by rw[hR];rfl
   have hA:decide ((0:Int)<((U r).length:Int))=true:=aF (by rw[lR];omega);have hr1:=aR hr0;have hsr:aa r<=aa p:=aw;simp -dsimp only[go_sem,h0,hA,az,Int.reduceToNat,Int.reduceLE,aC];refine bt [(9,9),(20,39)] [(8,8)] [] (fun n τ' β' ε'=>∃ i:Nat,n=4-i/\i<=4/\τ' 9 = .i (iN i)/\β' 8=⟨(β 8).gen+1,(Ex.zsub ⟨((aa r-1:Nat):Int),0,0,0⟩ ⟨((aa q-1:Nat):Int),0,0,0⟩ i).cs++[.v (.bool false),.lst [],.v (.bool false),.lst []]⟩)
    (fun e τ' β' ε'=>e = .exit 2/\β' 8=⟨(β 8).gen+1,(Ex.sub ⟨((aa r-1:Nat):Int),0,0,0⟩ ⟨((aa q-1:Nat):Int),0,0,0⟩).cs++[.v (.bool false),.lst [],.v (.bool false),.lst []]⟩) 4 ?_ ?_ ?_
   ·exact⟨0,aw,aw,rfl,rfl⟩
   ·rintro n2 τ2 β2 ε2 π2 hK2 hKB2 hKE2 ⟨i,hn2,hi,h18,b8⟩;have q8:τ2 8 = .bp 8 ((β 8).gen+1) 0:=(hK2 8 rfl).trans rfl;have q1:τ2 1 = .i (iUp q):=(hK2 1 rfl).trans k1;have q7:τ2 7 = .i (iUp r):=(hK2 7 rfl).trans h0;obtain rfl|rfl|rfl|rfl|rfl:i=0\/i=1\/i=2\/i=3\/i=4:=aw
    ·have h18':τ2 9 = .i (iN 0):=h18;simp -dsimp only[go_sem,h18',Int.reduceLT,decide_true];refine ap 16 [] false true ?_;simp -dsimp only[go_sem,h18',q7,q1,q8,b8,Int.reduceToNat,Int.reduceLE,aC,Int.reduceAdd,Ex.zsub,Nat.not_lt_zero];refine aP cR ?_;simp -dsimp only[go_sem,h18',q7,q1,q8,b8,Int.reduceToNat,Int.reduceLE,aC,Int.reduceAdd,Ex.zsub,Nat.not_lt_zero];refine aP cQ ?_;simp -dsimp only[go_sem,h18',q7,q1,q8,b8,Int.reduceToNat,Int.reduceLE,aC,Int.reduceAdd,Ex.zsub,Nat.not_lt_zero]
     repeat(refine And.intro aw ?_)
     refine again (4-1) aw ⟨(aA hK2),(aA hKB2),hKE2,1,rfl,aw,rfl,?_⟩;simp -dsimp only[go_sem,Ex.zsub,Nat.not_lt_zero]
    ·have h18':τ2 9 = .i (iN 1):=h18;simp -dsimp only[go_sem,h18',Int.reduceLT,decide_true];refine ap 16 [] false true ?_;simp -dsimp only[go_sem,h18',q7,q1,q8,b8,Int.reduceToNat,Int.reduceLE,aC,Int.reduceAdd,Ex.zsub,Nat.not_lt_zero];refine aP cR ?_;simp -dsimp only[go_sem,h18',q7,q1,q8,b8,Int.reduceToNat,Int.reduceLE,aC,Int.reduceAdd,Ex.zsub,Nat.not_lt_zero];refine aP cQ ?_;simp -dsimp only[go_sem,h18',q7,q1,q8,b8,Int.reduceToNat,Int.reduceLE,aC,Int.reduceAdd,Ex.zsub,Nat.not_lt_zero]
     repeat(refine And.intro aw ?_)
     refine again (4-2) aw ⟨(aA hK2),(aA hKB2),hKE2,2,rfl,aw,rfl,?_⟩;simp -dsimp only[go_sem,Ex.zsub,Nat.not_lt_zero]
    ·have h18':τ2 9 = .i (iN 2):=h18;simp -dsimp only[go_sem,h18',Int.reduceLT,decide_true];refine ap 16 [] false true ?_;simp -dsimp only[go_sem,h18',q7,q1,q8,b8,Int.reduceToNat,Int.reduceLE,aC,Int.reduceAdd,Ex.zsub,Nat.not_lt_zero];refine aP cR ?_;simp -dsimp only[go_sem,h18',q7,q1,q8,b8,Int.reduceToNat,Int.reduceLE,aC,Int.reduceAdd,Ex.zsub,Nat.not_lt_zero];refine aP cQ ?_;simp -dsimp only[go_sem,h18',q7,q1,q8,b8,Int.reduceToNat,Int.reduceLE,aC,Int.reduceAdd,Ex.zsub,Nat.not_lt_zero]
     repeat(refine And.intro aw ?_)
     refine again (4-3) aw ⟨(aA hK2),(aA hKB2),hKE2,3,rfl,aw,rfl,?_⟩;simp -dsimp only[go_sem,Ex.zsub,Nat.not_lt_zero]
    ·have h18':τ2 9 = .i (iN 3):=h18;simp -dsimp only[go_sem,h18',Int.reduceLT,decide_true];refine ap 16 [] false true ?_;simp -dsimp only[go_sem,h18',q7,q1,q8,b8,Int.reduceToNat,Int.reduceLE,aC,Int.reduceAdd,Ex.zsub,Nat.not_lt_zero];refine aP cR ?_;simp -dsimp only[go_sem,h18',q7,q1,q8,b8,Int.reduceToNat,Int.reduceLE,aC,Int.reduceAdd,Ex.zsub,Nat.not_lt_zero];refine aP cQ ?_;simp -dsimp only[go_sem,h18',q7,q1,q8,b8,Int.reduceToNat,Int.reduceLE,aC,Int.reduceAdd,Ex.zsub,Nat.not_lt_zero]
     repeat(refine And.intro aw ?_)
     refine again (4-4) aw ⟨(aA hK2),(aA hKB2),hKE2,4,rfl,aw,rfl,?_⟩;simp -dsimp only[go_sem,Ex.zsub,Nat.not_lt_zero]
    ·have h18':τ2 9 = .i (iN 4):=h18;simp -dsimp only[go_sem,h18',Int.reduceLT,decide_false];exact⟨(aA hK2),hKB2,hKE2,b8⟩
   ·rintro e τ2 β2 ε2 π2 hK2 hKB2 hKE2 ⟨rfl,b8⟩;refine⟨_,bA.refl _,?_⟩;have r8:τ2 8 = .bp 8 ((β 8).gen+1) 0:=(hK2 8 rfl).trans rfl;have r1:τ2 1 = .i (iUp q):=(hK2 1 rfl).trans k1;have r7:τ2 7 = .i (iUp r):=(hK2 7 rfl).trans h0;have r6:τ2 6 = .sl 14 g L.length:=(hK2 6 rfl).trans h6';have rr:ε2 14=⟨g,8,L.map eT,mm,true⟩:=(hKE2 14 rfl).trans hrow;have kO:=Kp.step2 hK hK2 (by intro n;simp[inR]<;>omega) (aA hK);have kB:=Kp.step2 hKB hKB2 (by intro n;simp[inR]<;>omega) (aA hKB);have kE:=Kp.step2 hKE hKE2 (by intro n;simp[inR]) hKE;have hjk:j*(k+1)+(k+1)<=(aa p+2)*(k+1):=by rw[<-Nat.succ_mul];exact Nat.mul_le_mul_right _ aw
    have hqr:QB 17179869184 (lc r):=ir (hr.coef _).1 (hr.coef _).2 aw;have hqq:QB 17179869184 (lc q):=ir (hq.coef _).1 (hq.coef _).2 aw;by_cases hc:aa q<=aa r
    ·have hX:Ex.sub ⟨((aa r-1:Nat):Int),0,0,0⟩ ⟨((aa q-1:Nat):Int),0,0,0⟩=⟨((aa r-aa q:Nat):Int),0,0,0⟩:=by
      unfold Ex.sub;simp only[Ex.mk.injEq];omega
     rw[hX]at b8;have eN:decide (dc ⟨((aa r-aa q:Nat):Int),0,0,0⟩)=true:=aF (by unfold dc;dsimp only;omega);simp -dsimp only[go_sem,r8,b8,r1,r7,Int.reduceToNat,Int.reduceLE,aC];refine aQ (args':=[iE ⟨((aa r-aa q:Nat):Int),0,0,0⟩]) rfl (jb _) ?_;simp -dsimp only[go_sem,eN];refine bB av 11 13 [] true [.tmp 57] none av av av av aE ?_;simp -dsimp only[go_sem,r8,b8,r1,r7,Int.reduceToNat,Int.reduceLE,aC];refine aP cR ?_;simp -dsimp only[go_sem,r8,b8,r1,r7,Int.reduceToNat,Int.reduceLE,aC];refine aP cQ ?_;simp -dsimp only[go_sem,r8,b8,r1,r7,Int.reduceToNat,Int.reduceLE,aC];refine aQ (args':=[iQ (lc r),iQ (lc q)]) rfl (A4 _ _ hlq hqr hqq) ?_;simp -dsimp only[go_sem,r8,b8,r1,r7,Int.reduceToNat,Int.reduceLE,aC];have hcc:lc r/lc q≠0:=by
      intro e0;refine bN hr0 ?_;have h9:(lc r:Rat)/lc q*lc q=lc r:=Rat.div_mul_cancel hlq;rw[e0]at h9;rw[<-h9];exact Rat.zero_mul _
     obtain⟨b1,b2⟩:=jJ hlq (hr.coef (aa r-1)) (hq.coef (aa q-1));have hmb:am (h+j*(k+1)+k) (mon (aa r-aa q) (lc r/lc q)):=am.mon _ b1 b2;have hsm:=nj (aa r-aa q) (a:=lc r/lc q) hcc;have hsp:=bf q (mon (aa r-aa q) (lc r/lc q));simp -dsimp only[go_sem,r6,rr,hg,r7,r1,az]
     repeat(refine And.intro aw ?_)
     simp -dsimp only[go_sem,r8,r1,r7];refine aQ (args':=[iUp q,.g (eT (⟨((aa r-aa q:Nat):Int),0,0,0⟩,lc r/lc q))]) rfl (rL _ _ (by have:=dF q;omega) (HB.qb hq aw) (ir b1 b2 aw) (Dd aw aw) (by unfold Ex.lt;dsimp only;omega)) ?_;rw[yq q ⟨au,rfl,rfl,rfl⟩];simp -dsimp only[go_sem,r7];refine aQ (args':=[iUp r,iUp (q*mon (aa r-aa q) (lc r/lc q))]) au (AX hr (hq.mul hmb) aw aw aw aw) ?_;simp -dsimp only[go_sem];have hlow:=wL hr0 hq0 hc;refine be (aa (r-q*mon (aa r-aa q) (lc r/lc q))) 6 61 14 aw rfl rfl aw aH
      ⟨(aA kO),(aA kB),(aA kE),_,s+mon (aa r-aa q) (lc r/lc q),L++[(⟨((aa r-aa q:Nat):Int),0,0,0⟩,lc r/lc q)],j+1,rfl,?_,Ev hL hcc (fun t ht=>by have:=hlt t ht;omega),?_,?_,ar,?_,aw,rfl,?_⟩
     ·rw[he,add_mul];exact ring [s*q,mon (aa r-aa q) (lc r/lc q),q,r]
     ·rw[o8,hLs,bc,cI,add_zero];simp
     ·intro t ht;rcases List.mem_append.1 ht with ht|ht
      ·have:=hlt t ht;omega
      ·simp at ht;subst ht;simp only;omega
     ·have:=hr.divstep hq hq0 (aa r-aa q);exact this.mono (by rw[Nat.succ_mul];omega)
     ·exact Own.mk2 (Nat.succ_pos _) (by simp -dsimp only[go_sem];rfl) (by simp -dsimp only[go_sem];rfl) au (by simp;rfl)
    ·have hX:¬ dc (Ex.sub ⟨((aa r-1:Nat):Int),0,0,0⟩ ⟨((aa q-1:Nat):Int),0,0,0⟩):=by
      unfold Ex.sub dc;dsimp only;omega
     have eN:decide (dc (Ex.sub ⟨((aa r-1:Nat):Int),0,0,0⟩ ⟨((aa q-1:Nat):Int),0,0,0⟩))=false:=aG hX;simp -dsimp only[go_sem,r8,b8,r1,r7,Int.reduceToNat,Int.reduceLE,aC];refine aQ (args':=[iE (Ex.sub ⟨((aa r-1:Nat):Int),0,0,0⟩ ⟨((aa q-1:Nat):Int),0,0,0⟩)]) rfl (jb _) ?_;simp -dsimp only[go_sem,eN];exact⟨(aA kO),kB,kE,Av he hr0 aw⟩
 ·rintro e τ β ε π hK hKB hKE h;refine⟨_,bA.refl _,?_⟩;rcases h with⟨rfl,s,L,he,hL,hLs,hll,g,mm,hg,h6,hrow⟩|⟨rfl,h1,h2,h3⟩
  ·rw[az]at h6;simp -dsimp only[go_sem,h6,hrow,hg];rw[gY hq0 he,kV s,<-vR hL hLs]
  ·simp -dsimp only[go_sem,h2,h3];rw[h1];rfl
theorem gk (p:PQ) (sp:aa p<=1048576):Fn Tryz.prog 44 [iUp p,iN 0] [iN ((aa p:Int)-1)]:=by
 have:=vo (U p) 0 aw (by have:=dF p;omega);rwa [rG]at this
theorem py (p:PQ) (k:Nat) (sp:aa p<=1048576):Fn Tryz.prog 172 [iUp p,iN 0,iN k] [iUp (an (p.c k))]:=by
 have:=Dj (U p) 0 k aw (by have:=dF p;omega);rwa [AB]at this
theorem GW (p:PQ) (hp:p≠0) (sp:aa p<=1048576):Fn Tryz.prog 171 [iUp p,iN 0] [iUp (an (lc p))]:=by
 have h0:=aR hp;refine aJ (fn:=Tryz.f171) ?_;simp -dsimp only[go_sem];refine aK (gk p sp) ?_;simp -dsimp only[go_sem];refine aQ (args':=[iUp p,iN 0,iN ((aa p-1:Nat):Int)]) (by rw[show((aa p-1:Nat):Int)=(aa p:Int)-1 by omega]) (py p (aa p-1) sp) ?_;simp -dsimp only[go_sem];rfl
theorem U_X:U (mon 1 1)=[(e0.to 0 1,1)]:=by rw[AT 1 aH];rfl
theorem qN (n:Nat):am 0 (mon n 1):=am.mon n aH aH
theorem sX (n:Nat):aa (mon n (1:Rat))=n+1:=nj n aH
theorem nT:gv ((1:Int):Rat)=U (mon 0 1):=by
 rw[AT 0 aH];rfl
theorem Kc (n:Nat) (hn:n<=524286):Fn Tryz.prog 173 [iUp (mon 1 1),iN n] [iUp (mon n 1)]:=by
 refine aJ (fn:=Tryz.f173) ?_;have e1:decide ((n:Int)<0)=false:=aG aw;simp -dsimp only[go_sem,e1];refine aK (GS 1 aH) ?_;simp -dsimp only[go_sem];refine a8 [(5,6),(11,18)] [] [] (fun m τ β ε=>∃ i:Nat,m=n-i/\i<=n/\τ 6 = .i (iN i)/\τ 5 = .i (iUp (mon i 1)))
  (fun e τ β ε=>e = .exit 0/\τ 5 = .i (iUp (mon n 1))) n ?_ ?_ ?_
 ·exact⟨0,aw,aw,rfl,by simp -dsimp only[go_sem];rw[nT]⟩
 ·rintro m τ β ε π hK hKB hKE ⟨i,hm,hi,h6,h5⟩;have k0:τ 0 = .i (iUp (mon 1 1)):=(hK 0 rfl).trans rfl;have k1:τ 1 = .i (iN n):=(hK 1 rfl).trans rfl;by_cases hlt:i<n
  ·have dA:decide ((i:Int)<(n:Int))=true:=aF aw;simp -dsimp only[go_sem,h6,h5,k0,k1,dA];refine aK (eI (qN i) (qN 1) aw (by rw[sX];omega) (by rw[sX];omega)) ?_;rw[dV];simp -dsimp only[go_sem,h6]
   repeat(refine And.intro aw ?_)
   refine again (n-(i+1)) aw ⟨(aA hK),hKB,hKE,i+1,rfl,aw,rfl,?_⟩;simp -dsimp only[go_sem];rw[show(1:Rat)*1=1 from Rat.mul_one 1]
  ·have dA:decide ((i:Int)<(n:Int))=false:=aG aw;obtain rfl:i=n:=aw;simp -dsimp only[go_sem,h6,k1,dA];exact⟨(aA hK),hKB,hKE,h5⟩
 ·rintro e τ β ε π hK hKB hKE ⟨rfl,h5⟩;simp -dsimp only[go_sem,h5]
theorem sI {p q:PQ} {h k:Nat} (hp:am h p) (hq:am k q) (hq0:q≠0) (hb:h+(aa p+2)*(k+1)+2*k<=68719476000) (sp:aa p<=262144) (sq:aa q<=262144):Fn Tryz.prog 135 [iUp p,iUp q,iN 0] [iUp (psr q (aa p) p),iN 0]:=by
 obtain⟨Q,hQ⟩:=gy hq0;have lQ:(U q).length=Q.length+1:=by rw[hQ];rfl
 have e1:decide (((U q).length:Int)=0)=false:=by rw[lQ];exact aG aw
 have hq1:=aR hq0;refine aJ (fn:=Tryz.f135) ?_;simp -dsimp only[go_sem,e1,az];refine aK (gk q aw) ?_;simp -dsimp only[go_sem];refine aK (GW q hq0 aw) ?_;simp -dsimp only[go_sem];refine aK (gk p aw) ?_;simp -dsimp only[go_sem];refine a8 [(10,12),(27,49)] [] [] (fun n τ β ε=>∃(t:Nat) (r:PQ) (j:Nat),n=t/\aa r<=t/\psr q t r=psr q (aa p) p/\t<=aa p/\j+t<=aa p/\am (h+j*(k+1)) r/\τ 11 = .i (iN ((t:Int)-1))/\τ 10 = .i (iUp r))
  (fun e τ β ε=>e = .exit 0/\τ 10 = .i (iUp (psr q (aa p) p))) (aa p) ?_ ?_ ?_
 ·exact⟨aa p,p,0,rfl,ay _,rfl,ay _,aw,by simpa using hp,rfl,rfl⟩
 ·rintro n τ β ε π hK hKB hKE ⟨t,r,j,hn,hs,hps,htp,hjt,hr,h11,h10⟩;have k1:τ 1 = .i (iUp q):=(hK 1 rfl).trans rfl;have k2:τ 2 = .i (iN 0):=(hK 2 rfl).trans rfl;have k8:τ 8 = .i (iN ((aa q:Int)-1)):=(hK 8 rfl).trans rfl;have k9:τ 9 = .i (iUp (an (lc q))):=(hK 9 rfl).trans rfl;by_cases hlt:aa q<=t
  ·obtain⟨t',rfl⟩:∃ t',t=t'+1:=⟨t-1,aw⟩;have ei:((t'+1:Nat):Int)-1=(t':Int):=aw;have dA:decide (((aa q:Int)-1)<=(t':Int))=true:=aF aw;have ek:(t':Int)-((aa q:Int)-1)=((t'+1-aa q:Nat):Int):=aw;rw[ei]at h11;have hjk:j*(k+1)+(k+1)<=(aa p+2)*(k+1):=by rw[<-Nat.succ_mul];exact Nat.mul_le_mul_right _ aw
   have c1:=iH (r.c t');have c2:=iH (lc q);have c3:=bf (an (r.c t')) (mon (t'+1-aa q) 1);have c4:=bf (an (lc q)) r;have c5:=bf (an (r.c t')*mon (t'+1-aa q) 1) q;rw[sX]at c3;simp -dsimp only[go_sem,h10,h11,k1,k2,k8,k9,dA];refine aK (py r t' aw) ?_;simp -dsimp only[go_sem,h10,h11,k1,k2,k8,k9];refine ao (iR 0 aw) rfl ?_;simp -dsimp only[go_sem,h10,h11,k1,k2,k8,k9,ek]
   repeat(refine And.intro aw ?_)
   refine aQ (args':=[iUp (mon 1 1),iN ((t'+1-aa q:Nat):Int)]) (by rw[<-U_X]) (Kc (t'+1-aa q) aw) ?_;simp -dsimp only[go_sem];refine aK (eI (mX hr t') (qN _) aw aw (by rw[sX];omega)) ?_;simp -dsimp only[go_sem,h10,h11,k1,k2,k8,k9];refine aK (eI (mX hq (aa q-1)) hr aw (by have:=iH (q.c (aa q-1));omega) aw) ?_;simp -dsimp only[go_sem,h10,h11,k1,k2,k8,k9];refine aK (eI ((mX hr t').mul (qN _)) hq aw aw aw) ?_;simp -dsimp only[go_sem,h10,h11,k1,k2,k8,k9];refine aK (AX ((mX hq (aa q-1)).mul hr) (((mX hr t').mul (qN _)).mul hq) aw aw (by show aa (an (lc q)*r)<=_;omega) aw) ?_;simp -dsimp only[go_sem,h11]
   repeat(refine And.intro aw ?_)
   refine again t' aw ⟨(aA hK),hKB,hKE,t',pst q t' r,j+1,rfl,B0 hq0 hs hlt,?_,aw,aw,(hr.pstep hq _ _ _).mono (by rw[Nat.succ_mul];omega),rfl,?_⟩
   ·rw[<-hps];simp only[psr];rw[if_pos hlt]
   ·simp -dsimp only[go_sem];rw[pst,<-du (r.c t'),dV,Nat.zero_add,show r.c t'*1=r.c t' from Rat.mul_one _]
  ·have dA:decide (((aa q:Int)-1)<=((t:Int)-1))=false:=aG aw;have hpr:psr q t r=r:=by
    cases t with
    | zero=>rfl
    | succ t=>simp only[psr];rw[if_neg hlt]
   simp -dsimp only[go_sem,h10,h11,k8,dA];rw[hpr]at hps;exact⟨(aA hK),hKB,hKE,by rw[<-hps]⟩
 ·rintro e τ β ε π hK hKB hKE ⟨rfl,h10⟩;simp -dsimp only[go_sem,h10]
end Go.AM
namespace Go.AM
open Alg
open Go.Proofs
open Classical
theorem hzU (x:PQ):decide (((U x).length:Int)=0)=decide (x=0):=by
 rw[decide_eq_decide];constructor
 ·intro h;exact nX.1 (List.eq_nil_of_length_eq_zero aw)
 ·rintro rfl;rw[cq];rfl
theorem cF {p:PQ} {h:Nat} (hp:am h p) (hb:h<=137438953000) (sp:aa p<=1048576):Fn Tryz.prog 129 [iUp p] [iUp (ag p)]:=by
 refine aJ (fn:=Tryz.f129) ?_;by_cases hp0:p=0
 ·subst hp0;have e1:decide (((U 0).length:Int)=0)=true:=by rw[cq];rfl
  simp -dsimp only[go_sem,e1,az];rw[fR,kV,cq];rfl
 ·obtain⟨R,hR⟩:=gy hp0;have lR:(U p).length=R.length+1:=by rw[hR];rfl
  have cR:(U p)[0]?=some (⟨((aa p-1:Nat):Int),0,0,0⟩,lc p):=by rw[hR];rfl
  have e1:decide (((U p).length:Int)=0)=false:=by rw[lR];exact aG aw
  have hqq:QB 17179869184 (lc p):=ir (hp.coef _).1 (hp.coef _).2 aw;have hl:=bN hp0;obtain⟨b1,b2⟩:=jJ (x:=1) (h:=0) hl ⟨aH,aH⟩ (hp.coef (aa p-1));simp -dsimp only[go_sem,e1,az];refine ap 9 [] false true ?_;simp -dsimp only[go_sem];refine aK (d8 1 aH) ?_;simp -dsimp only[go_sem,Int.reduceToNat,Int.reduceLE,aC];refine aP cR ?_;simp -dsimp only[go_sem,Int.reduceToNat,Int.reduceLE,aC];refine aQ (args':=[iQ 1,iQ (lc p)]) rfl (xb 1 _ hl n6 hqq) ?_;simp -dsimp only[go_sem];refine ao (mH hp aw sp (ir b1 b2 aw)) rfl ?_;simp -dsimp only[go_sem,zR]
theorem Ke:Fn Tryz.prog 131 [] [iUp 1]:=by
 refine aJ (fn:=Tryz.f131) ?_;simp -dsimp only[go_sem];refine aK (d8 1 aH) ?_;simp -dsimp only[go_sem];refine aQ (args':=[iQ ((1:Int):Rat)]) rfl (oH _ (vr (n:=1) aH _ aH)) ?_;simp -dsimp only[go_sem];rw[nT,du];rfl
theorem EI {p q:PQ} (hp:p≠0) (hq:q≠0) (sp:aa p<=1048576) (sq:aa q<=1048576):Fn Tryz.prog 130 [iUp p,iUp q] [iN (if aa p=1/\aa q=1 then -1 else 0)]:=by
 have dp:∀ v:Nat,v<4->Fn Tryz.prog 44 [iUp p,iN v] [iN (if v=0 then(aa p:Int)-1 else 0)]:=fun v hv=>by
  have:=vo (U p) v hv (by have:=dF p;omega);by_cases h:v=0
  ·subst h;rw[rG]at this;exact this
  ·rw[tg p hp v aw]at this;rwa [if_neg h]
 have dq:∀ v:Nat,v<4->Fn Tryz.prog 44 [iUp q,iN v] [iN (if v=0 then(aa q:Int)-1 else 0)]:=fun v hv=>by
  have:=vo (U q) v hv (by have:=dF q;omega);by_cases h:v=0
  ·subst h;rw[rG]at this;exact this
  ·rw[tg q hq v aw]at this;rwa [if_neg h]
 have hp1:=aR hp;have hq1:=aR hq;refine aJ (fn:=Tryz.f130) ?_;simp -dsimp only[go_sem];refine a8 [(5,21)] [] [] (fun n τ β ε=>∃ v:Int,n=(v+1).toNat /\ -1<=v/\v<=3/\(v<0->aa p=1/\aa q=1)/\τ 5 = .i (iN v))
  (fun e τ β ε=>e = .exit 0/\τ 5 = .i (iN (if aa p=1/\aa q=1 then -1 else 0))) 4 ?_ ?_ ?_
 ·exact⟨3,aw,aw,aw,aw,rfl⟩
 ·rintro n τ β ε π hK hKB hKE ⟨v,hn,hv0,hv,hz,h5⟩;have k0:τ 0 = .i (iUp p):=(hK 0 rfl).trans rfl;have k1:τ 1 = .i (iUp q):=(hK 1 rfl).trans rfl;by_cases hv1:v = -1
  ·subst hv1;simp -dsimp only[go_sem,h5,Int.reduceLE,decide_false];refine⟨(aA hK),hKB,hKE,?_⟩;rw[if_pos (hz aw)]
  ·have dA:decide ((0:Int)<=v)=true:=aF aw;obtain⟨u,rfl⟩:∃ u:Nat,v=u:=⟨v.toNat,aw⟩;simp -dsimp only[go_sem,h5,k0,k1,dA];refine aK (dp u aw) ?_;by_cases hu:u=0
   ·rw[if_pos hu];by_cases hs:aa p=1
    ·have e1:decide (((aa p:Int)-1)<1)=true:=aF aw;simp -dsimp only[go_sem,e1,h5,k1];refine aK (dq u aw) ?_;rw[if_pos hu];by_cases ht:aa q=1
     ·have e2:decide (((aa q:Int)-1)<1)=true:=aF aw;simp -dsimp only[go_sem,e2,h5]
      repeat(refine And.intro aw ?_)
      refine again 0 aw ⟨(aA hK),hKB,hKE,-1,aw,aw,aw,fun _=>⟨hs,ht⟩,?_⟩;simp -dsimp only[go_sem];rw[hu];rfl
     ·have e2:decide (((aa q:Int)-1)<1)=false:=aG aw;simp -dsimp only[go_sem,e2];refine⟨(aA hK),hKB,hKE,?_⟩;rw[if_neg (fun h=>ht h.2),h5,hu];rfl
    ·have e1:decide (((aa p:Int)-1)<1)=false:=aG aw;simp -dsimp only[go_sem,e1];refine⟨(aA hK),hKB,hKE,?_⟩;rw[if_neg (fun h=>hs h.1),h5,hu];rfl
   ·rw[if_neg hu];simp -dsimp only[go_sem,h5,k1,Int.reduceLT,decide_true];refine aK (dq u aw) ?_;rw[if_neg hu];simp -dsimp only[go_sem,h5,Int.reduceLT,decide_true]
    repeat(refine And.intro aw ?_)
    refine again u aw ⟨(aA hK),hKB,hKE,(u:Int)-1,aw,aw,aw,fun _=>by omega,rfl⟩
 ·rintro e τ β ε π hK hKB hKE ⟨rfl,h5⟩;simp -dsimp only[go_sem,h5]
theorem n5 {p q:PQ} {h k:Nat} (hp:am h p) (hq:am k q) (hb:h<=137438953000) (hb':k<=137438953000) (sp:aa p<=1048576) (sq:aa q<=1048576) (hc:p=0\/q=0\/(aa p=1/\aa q=1)):Fn Tryz.prog 94 [iUp p,iUp q] [iUp (lI p q)]:=by
 refine aJ (fn:=Tryz.f94) ?_;by_cases hp0:p=0
 ·have e1:=hzU p;rw[aF hp0]at e1;simp -dsimp only[go_sem,e1,az];refine ao (cF hq hb' sq) rfl ?_;simp -dsimp only[go_sem];rw[lI,if_pos hp0]
 ·have e1:=hzU p;rw[aG hp0]at e1;by_cases hq0:q=0
  ·have e2:=hzU q;rw[aF hq0]at e2;simp -dsimp only[go_sem,e1,e2,az];refine ao (cF hp hb sp) rfl ?_;simp -dsimp only[go_sem];rw[lI,if_neg hp0,if_pos hq0]
  ·have e2:=hzU q;rw[aG hq0]at e2;have h1:aa p=1/\aa q=1:=by rcases hc with h|h|h<;>first|exact absurd h hp0|exact absurd h hq0|exact h
   have tp:=EI hp0 hq0 sp sq;rw[if_pos h1]at tp;simp -dsimp only[go_sem,e1,e2,az];refine ao tp rfl ?_;simp -dsimp only[go_sem,Int.reduceLT,decide_true];refine aK Ke ?_;simp -dsimp only[go_sem];rw[lI,if_neg hp0,if_neg hq0]
theorem A3 (p:PQ) (sp:aa p<=1048575):Fn Tryz.prog 167 [iUp p,iN 0] [.c (.lst (cr (fun i=>U (an (p.c i))) (aa p)))]:=by
 have hlen:∀(f:Nat->List Tm) (n:Nat),(cr f n).length=n:=fun f n=>by simp[cr]
 refine aJ (fn:=Tryz.f167) ?_;simp -dsimp only[go_sem];refine cv 5 7 1 (rs:=[]) rfl au ?_;refine bt [(5,6),(8,21)] [] [(7,7),(21,21)] (fun n τ β ε=>∃ i:Nat,n=aa p-i/\i<=aa p/\τ 6 = .i (iN i)/\Own 1 (cr (fun i=>U (an (p.c i))) i) 5 7 τ ε)
  (fun e τ β ε=>e = .exit 0/\Own 1 (cr (fun i=>U (an (p.c i))) (aa p)) 5 7 τ ε) (aa p) ?_ ?_ ?_
 ·exact⟨0,aw,aw,rfl,Own.mk (g:=1) (mm:=false) aw rfl rfl rfl⟩
 ·rintro n τ β ε π hK hKB hKE ⟨i,hn,hi,h6,g,mm,hg,h5,h7⟩;rw[hlen]at h5;have k0:τ 0 = .i (iUp p):=(hK 0 rfl).trans rfl;have k1:τ 1 = .i (iN 0):=(hK 1 rfl).trans rfl;simp -dsimp only[go_sem,h6,k0,k1];refine aK (gk p aw) ?_;by_cases hlt:i<aa p
  ·have dA:decide ((i:Int)<=(aa p:Int)-1)=true:=aF aw;simp -dsimp only[go_sem,h6,k0,k1,dA,h5];refine aK (py p i aw) ?_;simp -dsimp only[go_sem,h5,h7,hg,h6,hlen]
   repeat(refine And.intro aw ?_)
   refine be (aa p-(i+1)) 5 21 7 aw rfl rfl aw aH ⟨(aA hK),hKB,(aA hKE),i+1,rfl,aw,rfl,?_⟩;refine Own.mk2 (Nat.succ_pos _) (by simp -dsimp only[go_sem];rfl) (by simp -dsimp only[go_sem];rfl) (by simp[hlen]) ?_;unfold cr;rw[List.range_succ,List.map_append];rfl
  ·have dA:decide ((i:Int)<=(aa p:Int)-1)=false:=aG aw;obtain rfl:i=aa p:=aw;simp -dsimp only[go_sem,dA];exact⟨(aA hK),hKB,hKE,Own.mk hg h5 (by rw[hlen]) h7⟩
 ·rintro e τ β ε π hK hKB hKE ⟨rfl,g,mm,hg,h5,h9⟩;refine⟨_,bA.refl _,?_⟩;simp -dsimp only[go_sem,h5,h9,hg,hlen];rw[List.take_of_length_le (by rw[hlen];omega)]
theorem mI {p:PQ} {h:Nat} (hp:am h p) (hb:h<=137438953000) (hp0:p≠0) (sp:aa p<=1048575):Fn Tryz.prog 132 [iUp p,iN 0] [iUp 1]:=by
 have hlen:∀(f:Nat->List Tm) (n:Nat),(cr f n).length=n:=fun f n=>by simp[cr]
 have hrow:∀ j,j<aa p->(cr (fun i=>U (an (p.c i))) (aa p))[j]?=some [cM (U (an (p.c j)))]:=fun j hj=>by rw[cr,List.getElem?_map,List.getElem?_range hj];rfl
 have hp1:=aR hp0;refine aJ (fn:=Tryz.f132) ?_;simp -dsimp only[go_sem];refine aK (A3 p sp) ?_;simp -dsimp only[go_sem];refine lA (bA.imm _ 6 (x:=iM []) rfl) ?_;refine a8 [(6,7),(12,23)] [] [] (fun n τ β ε=>∃ i:Nat,n=aa p-i/\i<=aa p/\τ 7 = .i (iN i)/\τ 6 = .i (iUp (if ∃ j,j<i/\p.c j≠0 then 1 else 0)))
  (fun e τ β ε=>e = .exit 0/\τ 6 = .i (iUp 1)) (aa p) ?_ ?_ ?_
 ·exact⟨0,aw,aw,rfl,by simp -dsimp only[go_sem];rw[if_neg (fun⟨j,h,_⟩=>by omega),kV,cq]⟩
 ·rintro n τ β ε π hK hKB hKE ⟨i,hn,hi,h7,h6⟩;have k5:τ 5 = .i (.c (.lst (cr (fun i=>U (an (p.c i))) (aa p)))):=(hK 5 rfl).trans rfl;by_cases hlt:i<aa p
  ·have dA:decide ((i:Int)<(aa p:Int))=true:=aF aw;have c1:an (1:Rat)=(1:PQ):=bP;have c0:an (0:Rat)=(0:PQ):=cC;have hg:lI (if ∃ j,j<i/\p.c j≠0 then 1 else 0) (an (p.c i))=if ∃ j,j<i+1/\p.c j≠0 then 1 else 0:=by
    have a:=uO (if ∃ j,j<i/\p.c j≠0 then 1 else 0) (p.c i)
    by_cases h1:∃ j,j<i/\p.c j≠0
    ·rw[if_pos h1,c1]at a;rw[if_pos h1,a,if_neg (fun h=>absurd h.1 aH),if_pos (by obtain⟨j,h2,h3⟩:=h1;exact⟨j,aw,h3⟩)]
    ·rw[if_neg h1,c0]at a;rw[if_neg h1,a];by_cases h2:p.c i=0
     ·rw[if_pos ⟨rfl,h2⟩,if_neg];rintro ⟨j,h3,h4⟩;by_cases e:j=i
      ·rw[e]at h4;exact h4 h2
      ·exact h1 ⟨j,aw,h4⟩
     ·rw[if_neg (fun h=>h2 h.2),if_pos ⟨i,aw,h2⟩]
   have call:Fn Tryz.prog 94 [iUp (if ∃ j,j<i/\p.c j≠0 then 1 else 0),iUp (an (p.c i))] [iUp (lI (if ∃ j,j<i/\p.c j≠0 then 1 else 0) (an (p.c i)))]:=by
    by_cases h1:∃ j,j<i/\p.c j≠0
    ·rw[if_pos h1];refine n5 (dK 0) (mX hp i) aw hb (by rw[cS];omega) (by have:=iH (p.c i);omega) ?_;rcases OG (p.c i)with h|h
     ·exact .inr (.inl h)
     ·exact .inr (.inr ⟨cS,h⟩)
    ·rw[if_neg h1];exact n5 (am.zero 0) (mX hp i) aw hb (by rw[aM.2 rfl];omega) (by have:=iH (p.c i);omega) (.inl rfl)
   rw[hg]at call;simp -dsimp only[go_sem,h7,h6,k5,dA,hlen];refine⟨_,hrow i hlt,?_⟩;simp -dsimp only[go_sem,h7,h6,k5,Int.reduceToNat,Int.reduceLE,aC];refine aK call ?_;simp -dsimp only[go_sem,h7]
   repeat(refine And.intro aw ?_)
   exact again (aa p-(i+1)) aw ⟨(aA hK),hKB,hKE,i+1,rfl,aw,rfl,rfl⟩
  ·have dA:decide ((i:Int)<(aa p:Int))=false:=aG aw;obtain rfl:i=aa p:=aw;rw[if_pos ⟨aa p-1,aw,bN hp0⟩]at h6;simp -dsimp only[go_sem,h7,k5,dA,hlen];exact⟨(aA hK),hKB,hKE,h6⟩
 ·rintro e τ β ε π hK hKB hKE ⟨rfl,h6⟩;simp -dsimp only[go_sem,h6]
theorem GU {p q s:PQ} {h k:Nat} (hp:am h p) (hq:am k q) (hq0:q≠0) (hb:h+(aa p+2)*(k+1)+k<=137438953000) (sp:aa p<=524288) (sq:aa q<=524288) (e:p=s*q):Fn Tryz.prog 168 [iUp p,iUp q] [iUp s]:=by
 have:=vn hp hq hq0 hb sp sq;rw[gY hq0 e]at this;refine aJ (fn:=Tryz.f168) ?_;simp -dsimp only[go_sem];refine aK this ?_;simp -dsimp only[go_sem]
theorem ii {p:PQ} {h:Nat} (hp:am h p) (hb:h+2*aa p+2<=137438953000) (sp:aa p<=524288):Fn Tryz.prog 133 [iUp p,iN 0] [iUp p]:=by
 have hz:=hzU p;refine aJ (fn:=Tryz.f133) ?_;by_cases hp0:p=0
 ·rw[aF hp0]at hz;simp -dsimp only[go_sem,hz,az];rw[kV,hp0,cq];rfl
 ·rw[aG hp0]at hz;simp -dsimp only[go_sem,hz,az];refine aK (mI hp aw hp0 aw) ?_;simp -dsimp only[go_sem];refine ao (GU hp (dK 0) fQ aw sp (by rw[cS];omega) (s:=p) (mul_one p).symm) rfl ?_;simp -dsimp only[go_sem]
end Go.AM
namespace Go.AM
open Alg
open Go.Proofs
theorem FO (v d:Int) (hd:0<=d/\d<4294967296):((v % 2147483647*4294967296 % 18446744073709551616+d % 18446744073709551616) % 18446744073709551616).tmod 2147483647=(d+4294967296*v) % 2147483647:=by
 have e1:v % 2147483647*4294967296 % 18446744073709551616=v % 2147483647*4294967296:=aw;have e2:d % 18446744073709551616=d:=aw;have e3:(v % 2147483647*4294967296+d) % 18446744073709551616=v % 2147483647*4294967296+d:=aw;rw[e1,e2,e3,Int.tmod_eq_emod_of_nonneg aw];omega
theorem EK (z:Int) (hz:(lb z).length<=17179869184):Fn Tryz.prog 202 [iZ z] [iz (af z)]:=by
 have hm:=pf z;refine aJ (fn:=Tryz.f202) ?_;simp -dsimp only[go_sem]
 repeat(refine And.intro aw ?_)
 refine a8 [(3,4),(9,22)] [] [] (fun n τ β ε=>∃ j:Nat,n=j/\j<=(lb z).length/\τ 4 = .i (iN ((j:Int)-1))/\τ 3 = .i (.c (.v (.int .u64 (val ((lb z).drop j) % 2147483647)))))
  (fun e τ β ε=>e = .exit 0/\τ 3 = .i (.c (.v (.int .u64 ((z.natAbs:Int) % 2147483647))))) (lb z).length ?_ ?_ ?_
 ·exact⟨(lb z).length,rfl,ay _,by simp -dsimp only[go_sem,az],by simp -dsimp only[go_sem];rw[List.drop_length];rfl⟩
 ·rintro n τ β ε π hK hKB hKE ⟨j,hn,hj,h4,h3⟩;have k1:τ 1 = .bp 1 1 0:=(hK 1 rfl).trans rfl;have b1:β 1=⟨1,eZ z⟩:=(hKB 1 rfl).trans rfl;by_cases hj0:j=0
  ·subst hj0;have dA:decide ((0:Int)<=((0:Nat):Int)-1)=false:=rfl;simp -dsimp only[go_sem,h4,dA];rw[List.drop_zero,bD]at h3;exact⟨(aA hK),hKB,hKE,h3⟩
  ·obtain⟨i,rfl⟩:∃ i,j=i+1:=⟨j-1,aw⟩;have ei:((i+1:Nat):Int)-1=(i:Int):=aw;rw[ei]at h4;have dA:decide ((0:Int)<=(i:Int))=true:=aF aw;have gi:(lb z)[i]?=some (lb z)[i]:=aD aw;unfold eZ lL at b1;simp -dsimp only[go_sem,h4,h3,k1,b1,dA,Int.reduceToNat,Int.reduceLE,aC];refine aP gi ?_;simp -dsimp only[go_sem,bG,h4,h3]
   repeat(refine And.intro aw ?_)
   refine again i aw ⟨(aA hK),hKB,hKE,i,rfl,aw,rfl,?_⟩;simp -dsimp only[go_sem];rw[FO _ _ ((bU z).get aw),<-cd (l:=lb z) (i:=i) aw]
 ·rintro e τ β ε π hK hKB hKE ⟨rfl,h3⟩;have k1:τ 1 = .bp 1 1 0:=(hK 1 rfl).trans rfl;have b1:β 1=⟨1,eZ z⟩:=(hKB 1 rfl).trans rfl;unfold eZ lL at b1;by_cases hz0:z<0
  ·have e1:decide (z<0)=true:=aF hz0;rw[e1]at b1;by_cases hr:(z.natAbs:Int) % 2147483647=0
   ·have e0:decide ((0:Int)<0)=false:=rfl;rw[hr]at h3;simp -dsimp only[go_sem,h3,k1,b1,e0,Int.reduceToNat,Int.reduceLE,aC];rw[iz,hm,show z % 2147483647=0 by omega]
   ·have e2:decide (0<(z.natAbs:Int) % 2147483647)=true:=aF aw;simp -dsimp only[go_sem,h3,k1,b1,e2,Int.reduceToNat,Int.reduceLE,aC];rw[iz,hm,show(2147483647-(z.natAbs:Int) % 2147483647) % 18446744073709551616=z % 2147483647 by omega]
  ·have e1:decide (z<0)=false:=aG hz0;rw[e1]at b1;simp -dsimp only[go_sem,h3,k1,b1,Int.reduceToNat,Int.reduceLE,aC];rw[iz,hm,show(z.natAbs:Int) % 2147483647=z % 2147483647 by omega]
theorem oF (a:Zp) (n:Nat) (hn:n<9223372036854775808):Fn Tryz.prog 203 [iz a,iN n] [iz (Alg.pw a n)]:=by
 refine aJ (fn:=Tryz.f203) ?_;simp -dsimp only[go_sem];refine a8 [(0,1),(5,20)] [] [] (fun m τ β ε=>∃(b o:Zp) (k:Nat),m=k/\k<=n/\Alg.pw a n=o*Alg.pw b k/\τ 0 = .i (iz b)/\τ 1 = .i (iN k)/\τ 5 = .i (iz o))
  (fun e τ β ε=>e = .exit 0/\τ 5 = .i (iz (Alg.pw a n))) n ?_ ?_ ?_
 ·exact⟨a,1,n,rfl,ay _,(one_mul _).symm,rfl,rfl,rfl⟩
 ·rintro m τ β ε π hK hKB hKE ⟨b,o,k,hm,hk,he,h0,h1,h5⟩;by_cases hk0:k=0
  ·have hA:decide ((0:Int)<(k:Int))=false:=aG aw;simp -dsimp only[go_sem,h1,hA];refine⟨(aA hK),hKB,hKE,?_⟩;rw[h5,he,hk0];show AV.i (iz o)=AV.i (iz (o*1));rw[mul_one]
  ·have hA:decide ((0:Int)<(k:Int))=true:=aF aw;have em:(k:Int).tmod 2=((k % 2:Nat):Int):=by rw[Int.tmod_eq_emod_of_nonneg aw];omega
   have ed:(k:Int).tdiv 2=((k/2:Nat):Int):=by rw[Int.tdiv_eq_ediv_of_nonneg aw];omega
   have e1:decide (((k % 2:Nat):Int)=1)=decide (k % 2=1):=by rw[decide_eq_decide];omega
   by_cases h2:k % 2=1
   ·rw[aF h2]at e1;simp -dsimp only[go_sem,h1,hA,em,ed,e1,h5,h0,zmul]
    repeat(refine And.intro aw ?_)
    refine again (k/2) aw ⟨(aA hK),hKB,hKE,b*b,o*b,k/2,rfl,aw,?_,rfl,rfl,rfl⟩;rw[he,DR b k,if_pos h2,mul_assoc]
   ·rw[aG h2]at e1;simp -dsimp only[go_sem,h1,hA,em,ed,e1,h5,h0,zmul]
    repeat(refine And.intro aw ?_)
    refine again (k/2) aw ⟨(aA hK),hKB,hKE,b*b,o,k/2,rfl,aw,?_,rfl,rfl,h5⟩;rw[he,DR b k,if_neg h2,one_mul]
 ·rintro e τ β ε π hK hKB hKE ⟨rfl,h5⟩;simp -dsimp only[go_sem,h5]
theorem uc {a:Zp} (h:a≠0):∃ v:Zp,v*a=1/\Fn Tryz.prog 203 [iz a,iN 2147483645] [iz v]:=by
 exact⟨_,Bq h,oF a 2147483645 aw⟩
noncomputable def zli (r:PZ):List Zp:=(List.range (aa r)).map r.c
theorem lW (r:PZ):(zli r).length=aa r:=by simp[zli]
theorem N5 {l:List Zp} (h:TrZ l):zli (zp l)=l:=by
 refine List.ext_getElem (by rw[lW,kY h]) fun i h1 h2=>?_;rw[<-mO h2];simp[zli]
theorem Pa {rows:List (List C)} {R:List Zp} (hrow:pt rows R):rows.take R.length=R.map zr:=by
 refine List.ext_getElem? fun j=>?_;rw[List.getElem?_take,List.getElem?_map];split
 ·rename_i hj;rw[hrow j hj,aD hj];rfl
 ·rename_i hj;rw[List.getElem?_eq_none aw];rfl
set_option maxHeartbeats 1600000 in
theorem Kb {a b:List Zp} (ha0:0<a.length) (hb0:0<b.length) (ta:TrZ a) (tb:TrZ b) (la:a.length<=1048576) (lb':b.length<=1048576):Fn Tryz.prog 170 [zl a,zl b] [zl (zli (rm (zp a) (zp b)))]:=by
 have eb:(b.length:Int)-1=((b.length-1:Nat):Int):=aw;have gb:b[b.length-1]?=some b[b.length-1]:=aD aw;have hne:(a.map zr).isEmpty=false:=by cases a with|nil=>simp at ha0|cons _ _=>rfl
 obtain⟨v,hv,hpw⟩:=uc (tb hb0);refine aJ (fn:=Tryz.f170) ?_;simp -dsimp only[go_sem,eb,az,hne];refine⟨Dw a,aw,aw,?_⟩;refine aP gb ?_;simp -dsimp only[go_sem,zr];refine ao hpw rfl ?_;simp -dsimp only[go_sem];have hb':zp b≠0:=fun e=>by
  have:=kY tb;rw[e,aM.2 rfl]at this;omega
 refine bt [(5,5),(7,9),(20,81)] [] [(12,12)] (fun n τ' β' ε'=>∃(R:List Zp) (rows:List (List C)) (s:PZ),n=R.length/\TrZ R/\R.length<=a.length/\zp a=s*zp b+zp R/\pt rows R/\τ' 5 = .sl 12 1 R.length/\ε' 12=⟨1,1,rows,true,true⟩)
  (fun e τ' β' ε'=>e = .exit 0/\∃(R:List Zp) (rows:List (List C)) (s:PZ),R.length<b.length/\TrZ R/\zp a=s*zp b+zp R/\pt rows R/\τ' 5 = .sl 12 1 R.length/\ε' 12=⟨1,1,rows,true,true⟩) a.length ?_ ?_ ?_
 ·exact⟨a,a.map zr,0,rfl,ta,ay _,by rw[zero_mul,zero_add],pt.of a,by simp -dsimp only[go_sem],by simp -dsimp only[go_sem,hne]⟩
 ·rintro n2 τ2 β2 ε2 π2 hK2 hKB2 hKE2 ⟨R,rows,s,hn2,tR,hRl,hRe,hrow,h5,h22⟩;have q1:τ2 1 = .i (zl b):=(hK2 1 rfl).trans rfl;have q6:τ2 6 = .i (iz v):=(hK2 6 rfl).trans rfl;by_cases hlt:b.length<=R.length
  ·have hA2:decide ((b.length:Int)<=(R.length:Int))=true:=aF aw;have eR:(R.length:Int)-1=((R.length-1:Nat):Int):=aw;have eat:(R.length:Int)-(b.length:Int)=((R.length-b.length:Nat):Int):=aw;have hR0:0<R.length:=aw;simp -dsimp only[go_sem,h5,q1,q6,hA2,eR,eat,az,h22]
   repeat(refine And.intro aw ?_)
   refine⟨_,hrow (R.length-1) aw,?_⟩;simp -dsimp only[go_sem,zr,zmul,h5,q1,q6,eat,az,h22]
   repeat(refine And.intro aw ?_)
   refine bt [(9,9),(39,64)] [] [(12,12)] (fun n τ' β' ε'=>∃(i:Nat) (rows':List (List C)),n=b.length-i/\i<=b.length/\τ' 9 = .i (iN i)/\pt rows' (mh R b (R[R.length-1]*v) (R.length-b.length) i)/\ε' 12=⟨1,1,rows',true,true⟩)
    (fun e τ' β' ε'=>e = .exit 2/\∃(rows':List (List C)),pt rows' (mh R b (R[R.length-1]*v) (R.length-b.length) b.length)/\ε' 12=⟨1,1,rows',true,true⟩) b.length ?_ ?_ ?_
   ·exact⟨0,rows,aw,aw,rfl,by rw[wq];exact hrow,h22⟩
   ·rintro n3 τ3 β3 ε3 π3 hK3 hKB3 hKE3 ⟨i,rows',hn3,hi,h51,hrow',h22'⟩;have r1:τ3 1 = .i (zl b):=(hK3 1 rfl).trans q1;have r5:τ3 5 = .sl 12 1 R.length:=(hK3 5 rfl).trans h5;have r7:τ3 7 = .i (iz (R[R.length-1]*v)):=by rw[hK3 7 aH];simp -dsimp only[go_sem,zmul]
    have r8:τ3 8 = .i (iN ((R.length-b.length:Nat):Int)):=by rw[hK3 8 aH];simp -dsimp only[go_sem,eat]
    by_cases hlt3:i<b.length
    ·have hA3:decide ((i:Int)<(b.length:Int))=true:=aF aw;have gbi:b[i]?=some b[i]:=by simp[hlt3]
     have ead:((R.length-b.length:Nat):Int)+(i:Int)=((R.length-b.length+i:Nat):Int):=aw;have hji:R.length-b.length+i<R.length:=aw;have hr:rows'[R.length-b.length+i]?=some (zr R[R.length-b.length+i]):=by
      have:=hrow' (R.length-b.length+i) (by rw[gc];exact hji);rw[gQ,if_neg aw]at this;rw[this];simp[List.getD,hji]
     simp -dsimp only[go_sem,h51,r1,hA3,az];refine ap 20 [] false true ?_;simp -dsimp only[go_sem,h51,r1,r5,r7,r8,ead,h22']
     repeat(refine And.intro aw ?_)
     refine⟨_,hr,?_⟩;simp -dsimp only[go_sem,zr,h51,r1,r5,r7,r8,ead,h22'];refine aP gbi ?_;simp -dsimp only[go_sem,zr,zsub,h51,r1,r5,r7,r8,ead,h22']
     repeat(refine And.intro aw ?_)
     refine⟨_,hr,?_⟩;simp -dsimp only[go_sem,zr,h51]
     repeat(refine And.intro aw ?_)
     refine again (b.length-(i+1)) aw ⟨(aA hK3),hKB3,(aA hKE3),i+1,rows'.set (R.length-b.length+i) (zr (R[R.length-b.length+i] + -b[i]*(R[R.length-1]*v))),rfl,aw,rfl,zO hlt3 aw hrow',?_⟩;simp -dsimp only[go_sem,h22'];rfl
    ·have hA3:decide ((i:Int)<(b.length:Int))=false:=aG aw;obtain rfl:i=b.length:=aw;simp -dsimp only[go_sem,h51,r1,hA3,az];exact⟨(aA hK3),hKB3,hKE3,rows',hrow',h22'⟩
   ·rintro e τ3 β3 ε3 π3 hK3 hKB3 hKE3 ⟨rfl,rows',hrow',h22'⟩;refine⟨_,bA.refl _,?_⟩;have r5:τ3 5 = .sl 12 1 R.length:=(hK3 5 rfl).trans h5;have kO:=Kp.step2 hK2 hK3 (by intro n;simp[inR]<;>omega) (aA hK2);have kB:=Kp.step2 hKB2 hKB3 (by intro n;simp[inR]) hKB2;have kE:=Kp.step2 hKE2 hKE3 (by intro n;simp[inR]) hKE2;have hz:=G8 (R:=R) (b:=b) (R[R.length-1]*v) (at':=R.length-b.length) aw;have hlast:∀(h:R.length-1<(mh R b (R[R.length-1]*v) (R.length-b.length) b.length).length),(mh R b (R[R.length-1]*v) (R.length-b.length) b.length)[R.length-1]=0:=fun h=>by
     rw[gQ,if_pos aw,show R.length-1-(R.length-b.length)=b.length-1 by omega];rw[show R.getD (R.length-1) 0=R[R.length-1]from mO aw,show b.getD (b.length-1) 0=b[b.length-1]from mO aw];have e9 : -b[b.length-1]*(R[R.length-1]*v) = -(R[R.length-1]*(v*b[b.length-1])):=by rw[neg_mul,dE,mul_comm b[b.length-1] v]
     rw[e9,hv,mul_one,jB]
    generalize hR':mh R b (R[R.length-1]*v) (R.length-b.length) b.length=R' at *
    have lR':R'.length=R.length:=by rw[<-hR',gc]
    simp -dsimp only[go_sem];refine bt [(5,5),(65,81)] [] [] (fun n τ' β' ε'=>∃ t:Nat,n=t/\t<=R'.length/\(∀ j (hj:j<R'.length),t<=j->R'[j]=0)/\τ' 5 = .sl 12 1 t)
     (fun e τ' β' ε'=>e = .exit 4/\∃ t:Nat,t<=R'.length/\(∀ j (hj:j<R'.length),t<=j->R'[j]=0)/\(∀ h:t-1<R'.length,0<t->R'[t-1]≠0)/\τ' 5 = .sl 12 1 t) R'.length ?_ ?_ ?_
    ·exact⟨R'.length,rfl,ay _,fun j hj h=>by omega,by rw[lR'];exact r5⟩
    ·rintro n4 τ4 β4 ε4 π4 hK4 hKB4 hKE4 ⟨t,hn4,ht,hzero,h5'⟩;have s22:ε4 12=⟨1,1,rows',true,true⟩:=by rw[hKE4 12 aH];exact h22'
     by_cases ht0:t=0
     ·have hA4:decide ((0:Int)<(t:Int))=false:=aG aw;simp -dsimp only[go_sem,h5',s22,hA4];exact⟨(aA hK4),hKB4,hKE4,t,ht,hzero,fun _ h=>by omega,rfl⟩
     ·have hA4:decide ((0:Int)<(t:Int))=true:=aF aw;have et:(t:Int)-1=((t-1:Nat):Int):=aw;have hr4:=hrow' (t-1) aw;simp -dsimp only[go_sem,h5',s22,hA4,et]
      repeat(refine And.intro aw ?_)
      refine⟨_,hr4,?_⟩;simp -dsimp only[go_sem,zr];by_cases hz4:R'[t-1]=0
      ·have e4:decide (((R'[t-1].val:Nat):Int)=0)=true:=aF (by rw[hz4];rfl);simp -dsimp only[go_sem,e4,h5',s22,et]
       repeat(refine And.intro aw ?_)
       refine again (t-1) aw ⟨(aA hK4),hKB4,hKE4,t-1,rfl,aw,fun j hj h=>?_,rfl⟩;by_cases e:j=t-1
       ·subst e;exact hz4
       ·exact hzero j hj aw
      ·have hv0:R'[t-1].val≠0:=fun h=>hz4 (lV h);have e4:decide (((R'[t-1].val:Nat):Int)=0)=false:=aG aw;simp -dsimp only[go_sem,e4];exact⟨(aA hK4),hKB4,hKE4,t,ht,hzero,fun _ _=>hz4,h5'⟩
    ·rintro e τ4 β4 ε4 π4 hK4 hKB4 hKE4 ⟨rfl,t,ht,hzero,hnz,h5'⟩;refine⟨_,bA.refl _,?_⟩;have kO2:=Kp.step2 kO hK4 (by intro n;simp[inR]<;>omega) (aA kO);have kB2:=Kp.step2 kB hKB4 (by intro n;simp[inR]) kB;have kE2:=Kp.step2 kE hKE4 (by intro n;simp[inR]) kE;have s22:ε4 12=⟨1,1,rows',true,true⟩:=by rw[hKE4 12 aH];exact h22'
     have htl:t<R.length:=by
      rcases Nat.lt_or_ge t R.length with h|h
      ·exact h
      ·have e5:t=R.length:=aw;refine absurd ?_ (hnz aw aw);have:=hlast aw;simpa only[e5]using this
     have lt':(R'.take t).length=t:=by simp;omega
     simp -dsimp only[go_sem];refine again t aw ⟨(aA kO2),kB2,kE2,R'.take t,rows',s+mon (R.length-b.length) (R[R.length-1]*v),lt'.symm,fun h=>?_,aw,?_,fun j hj=>?_,by rw[lt'];exact h5',s22⟩
     ·rw[List.getElem_take];simp only[lt']at h ⊢;exact hnz aw h
     ·rw[Du hzero,hz,hRe,add_mul,sub_eq];rw[add_assoc,add_comm (zp R),<-add_assoc (mon _ _*zp b),jB,zero_add]
     ·rw[List.getElem_take];exact hrow' j (by simp at hj;omega)
  ·have hA2:decide ((b.length:Int)<=(R.length:Int))=false:=aG aw;simp -dsimp only[go_sem,h5,q1,hA2,az,h22];exact⟨(aA hK2),hKB2,hKE2,R,rows,s,aw,tR,hRe,hrow,rfl,rfl⟩
 ·rintro e τ2 β2 ε2 π2 hK2 hKB2 hKE2 ⟨rfl,R,rows,s,hlt,tR,hRe,hrow,h5,h22⟩;refine⟨_,bA.refl _,?_⟩;have hrm:rm (zp a) (zp b)=zp R:=DM hb' hRe (by rw[kY tR,kY tb];exact hlt);simp -dsimp only[go_sem,h5,h22,Pa hrow];rw[hrm,N5 tR]
end Go.AM
namespace Go.AM
open Alg
open Go.Proofs
open Classical
set_option maxHeartbeats 1600000 in
theorem px {p:PQ} {h:Nat} (hp:am h p) (hb:h<=137438953000) (hp0:p≠0) (sp:aa p<=1048576) (a:Nat) (ha:a<=1000000):Fn Tryz.prog 169 [iUp p,iN 0,.c (.v (.int .u64 (a:Int)))] (rE p):=by
 have h0:=aR hp0;have es:(aa p:Int)-1+1=(aa p:Int):=aw;have hUl:=dF p;refine aJ (fn:=Tryz.f169) ?_;simp -dsimp only[go_sem];refine aK (gk p sp) ?_;simp -dsimp only[go_sem,es,Int.toNat_natCast]
 repeat(refine And.intro aw ?_)
 refine bt [(6,7),(9,13),(19,83)] [] [(18,18)] (fun n τ β ε=>∃(i:Nat) (rows:List (List C)),n=(U p).length-i/\i<=(U p).length/\τ 9 = .i (iN i)/\ε 18=⟨1,1,rows,true,true⟩ /\
   (∀ j,j<aa p->rows[j]?=some (zr (seen p ((U p).take i) j)))/\∀ t∈(U p).take i,af (t.2.den)≠0)
  (fun e τ β ε=>(e = .exit 0/\uM p/\∃ rows:List (List C),ε 18=⟨1,1,rows,true,true⟩/\∀ j,j<aa p->rows[j]?=some (zr (rq (p.c j)))) \/
   (e = .ret/\¬ uM p/\τ 6 = .fl []/\τ 7 = .i (.c (.v (.bool false))))) (U p).length ?_ ?_ ?_
 ·refine⟨0,List.replicate (aa p) [.v (.int .u64 0)],aw,aw,rfl,rfl,fun j hj=>?_,au⟩;rw[seen,if_neg au];simp[hj];rfl
 ·rintro n τ β ε π hK hKB hKE ⟨i,rows,hn,hi,h9,h19,hrows,hgood⟩;have k0:τ 0 = .i (iUp p):=(hK 0 rfl).trans rfl;have k8:τ 8 = .sl 18 1 (aa p):=(hK 8 rfl).trans rfl;have k1:τ 1 = .i (iN 0):=(hK 1 rfl).trans rfl;have k2:τ 2 = .i (.c (.v (.int .u64 (a:Int)))):=(hK 2 rfl).trans rfl;by_cases hlt:i<(U p).length
  ·have hA:decide ((i:Int)<((U p).length:Int))=true:=aF aw;obtain⟨e,he,het,hec⟩:=nY (List.getElem_mem hlt);have hg:(U p)[i]?=some (⟨(e:Int),0,0,0⟩,p.c e):=by rw[aD hlt,het]
   have hbd:=hp.coef e;simp -dsimp only[go_sem,h9,k0,hA,az];refine aP hg ?_;simp -dsimp only[go_sem,h9,k0,Int.reduceToNat,Int.reduceLE,aC];refine aQ (args':=[iZ ((p.c e).den:Int)]) rfl (EK _ (ax (rB (z:=((p.c e).den:Int)) (by simpa using hbd.2)) aw)) ?_;by_cases hd:af ((p.c e).den:Int)=0
   ·have e1:decide ((((af ((p.c e).den:Int)).val:Nat):Int)=0)=true:=aF (by rw[hd];rfl);simp -dsimp only[go_sem,e1];exact⟨(aA hK),hKB,hKE,fun hgd=>hgd e he hd⟩
   ·have hv0:(af ((p.c e).den:Int)).val≠0:=fun h=>hd (lV h);have e1:decide ((((af ((p.c e).den:Int)).val:Nat):Int)=0)=false:=aG aw;obtain⟨v,hv,hpw⟩:=uc hd;have hrq:af (p.c e).num*v=rq (p.c e):=by
     rw[rq];congr 1;exact qg (by rw[mul_comm];exact hv)
    simp -dsimp only[go_sem,e1,h9,k0,Int.reduceToNat,Int.reduceLE,aC];refine aP hg ?_;simp -dsimp only[go_sem,e1,h9,k0,Int.reduceToNat,Int.reduceLE,aC];refine aQ (args':=[iZ (p.c e).num]) rfl (EK _ (ax (rB hbd.1) aw)) ?_;simp -dsimp only[go_sem];refine ao hpw rfl ?_;simp -dsimp only[go_sem,zmul,hrq]
    repeat(refine And.intro aw ?_)
    refine a8 [(11,12),(45,66)] [] [] (fun n τ' β' ε'=>∃ w:Nat,n=4-w/\w<=4/\τ' 12 = .i (iN w)/\τ' 11 = .i (iz (rq (p.c e))))
     (fun e' τ' β' ε'=>e' = .exit 2/\τ' 11 = .i (iz (rq (p.c e)))) 4 ?_ ?_ ?_
    ·exact⟨0,rfl,aw,rfl,rfl⟩
    ·rintro n2 τ2 β2 ε2 π2 hK2 hKB2 hKE2 ⟨w,hn2,hw,h42,q11⟩;have q1:τ2 1 = .i (iN 0):=(hK2 1 rfl).trans k1;have q2:τ2 2 = .i (.c (.v (.int .u64 (a:Int)))):=(hK2 2 rfl).trans k2;have q0:τ2 0 = .i (iUp p):=(hK2 0 rfl).trans k0;have q9:τ2 9 = .i (iN i):=(hK2 9 rfl).trans h9;obtain rfl|rfl|rfl|rfl|rfl:w=0\/w=1\/w=2\/w=3\/w=4:=aw
     ·have h42':τ2 12 = .i (iN 0):=h42;simp -dsimp only[go_sem,h42',q1,q2,q11,q0,q9,Int.reduceLT,decide_true,decide_false,Int.reduceEq]
      repeat(refine And.intro aw ?_)
      refine again (4-1) aw ⟨(aA hK2),hKB2,hKE2,1,rfl,aw,rfl,q11⟩
     ·have h42':τ2 12 = .i (iN 1):=h42;simp -dsimp only[go_sem,h42',q1,q2,q11,q0,q9,Int.reduceLT,Int.reduceEq,decide_true,decide_false,Int.reduceToNat];refine aP hg ?_;simp -dsimp only[go_sem,h42',q1,q2,q11,q0,q9,Int.reduceToNat,Int.reduceLE,aC];refine aQ (args':=[iz ⟨a+1,aw⟩,iN 0]) ?_ (oF ⟨a+1,aw⟩ 0 aw) ?_
      ·rw[show((a:Int)+1 % 18446744073709551616) % 18446744073709551616=((a+1:Nat):Int)by omega]
      simp -dsimp only[go_sem,zmul,h42',q11]
      repeat(refine And.intro aw ?_)
      refine again (4-2) aw ⟨(aA hK2),hKB2,hKE2,2,rfl,aw,rfl,?_⟩;simp -dsimp only[go_sem];rw[show Alg.pw (⟨a+1,aw⟩:Zp) 0=1 from rfl,mul_one]
     ·have h42':τ2 12 = .i (iN 2):=h42;simp -dsimp only[go_sem,h42',q1,q2,q11,q0,q9,Int.reduceLT,Int.reduceEq,decide_true,decide_false,Int.reduceToNat];refine aP hg ?_;simp -dsimp only[go_sem,h42',q1,q2,q11,q0,q9,Int.reduceToNat,Int.reduceLE,aC];refine aQ (args':=[iz ⟨a+2,aw⟩,iN 0]) ?_ (oF ⟨a+2,aw⟩ 0 aw) ?_
      ·rw[show((a:Int)+2 % 18446744073709551616) % 18446744073709551616=((a+2:Nat):Int)by omega]
      simp -dsimp only[go_sem,zmul,h42',q11]
      repeat(refine And.intro aw ?_)
      refine again (4-3) aw ⟨(aA hK2),hKB2,hKE2,3,rfl,aw,rfl,?_⟩;simp -dsimp only[go_sem];rw[show Alg.pw (⟨a+2,aw⟩:Zp) 0=1 from rfl,mul_one]
     ·have h42':τ2 12 = .i (iN 3):=h42;simp -dsimp only[go_sem,h42',q1,q2,q11,q0,q9,Int.reduceLT,Int.reduceEq,decide_true,decide_false,Int.reduceToNat];refine aP hg ?_;simp -dsimp only[go_sem,h42',q1,q2,q11,q0,q9,Int.reduceToNat,Int.reduceLE,aC];refine aQ (args':=[iz ⟨a+3,aw⟩,iN 0]) ?_ (oF ⟨a+3,aw⟩ 0 aw) ?_
      ·rw[show((a:Int)+3 % 18446744073709551616) % 18446744073709551616=((a+3:Nat):Int)by omega]
      simp -dsimp only[go_sem,zmul,h42',q11]
      repeat(refine And.intro aw ?_)
      refine again (4-4) aw ⟨(aA hK2),hKB2,hKE2,4,rfl,aw,rfl,?_⟩;simp -dsimp only[go_sem];rw[show Alg.pw (⟨a+3,aw⟩:Zp) 0=1 from rfl,mul_one]
     ·have h42':τ2 12 = .i (iN 4):=h42;simp -dsimp only[go_sem,h42',Int.reduceLT,decide_false];exact⟨(aA hK2),hKB2,hKE2,q11⟩
    ·rintro e' τ2 β2 ε2 π2 hK2 hKB2 hKE2 ⟨rfl,q11⟩;have r8:τ2 8 = .sl 18 1 (aa p):=(hK2 8 rfl).trans k8;have r1:τ2 1 = .i (iN 0):=(hK2 1 rfl).trans k1;have r0:τ2 0 = .i (iUp p):=(hK2 0 rfl).trans k0;have r9:τ2 9 = .i (iN i):=(hK2 9 rfl).trans h9;have f18:ε2 18=⟨1,1,rows,true,true⟩:=by rw[hKE2 18 aH];exact h19
     have kO:=Kp.step2 hK hK2 (by intro n;simp[inR]<;>omega) (aA hK);have kB:=Kp.step2 hKB hKB2 (by intro n;simp[inR]) hKB;have kE:=Kp.step2 hKE hKE2 (by intro n;simp[inR]) hKE;have hs0:seen p ((U p).take i) e=0:=by
      rw[seen,if_neg];rintro ⟨t,ht,hte⟩;obtain⟨j,hj,rfl⟩:=List.getElem_of_mem ht;simp only[List.length_take]at hj;rw[List.getElem_take]at hte;have h5:=(List.pairwise_iff_getElem.1 (ky p).srt) j i aw hlt aw;rw[jS ((ky p).uv _ (List.getElem_mem _)) ((ky p).uv _ (List.getElem_mem _)),het]at h5;simp only at h5;omega
     have hr0:=hrows e he;rw[hs0]at hr0;have hse:∀ j,seen p ((U p).take (i+1)) j=if j=e then rq (p.c e)else seen p ((U p).take i) j:=fun j=>by
      rw[aq hlt,het,seen,seen];by_cases hj:j=e
      ·subst hj;rw[if_pos ⟨_,by simp;right;rfl,rfl⟩,if_pos rfl]
      ·rw[if_neg hj];congr 1;refine propext ⟨?_,fun⟨t,ht,h5⟩=>⟨t,by simp[ht],h5⟩⟩;rintro ⟨t,ht,h5⟩;rcases List.mem_append.1 ht with ht|ht
       ·exact⟨t,ht,h5⟩
       ·simp at ht;subst ht;simp only at h5;omega
     simp -dsimp only[go_sem,r0,r9,r1,r8,q11,f18,Int.reduceToNat,Int.reduceLE,aC];refine aP hg ?_;simp -dsimp only[go_sem,r0,r9,r1,r8,q11,f18,Int.reduceToNat,Int.reduceLE,aC,Int.toNat_natCast];refine⟨he,_,hr0,?_⟩;simp -dsimp only[go_sem,zr,zadd,zadd',r0,r9,r1,r8,q11,f18,Int.reduceToNat,Int.reduceLE,aC,Int.toNat_natCast];refine⟨aw,he,_,hr0,?_⟩;simp -dsimp only[go_sem,r9,zr]
     repeat(refine And.intro aw ?_)
     refine again ((U p).length-(i+1)) aw ⟨(aA kO),kB,(aA kE),i+1,rows.set e (zr (0+rq (p.c e))),rfl,aw,rfl,by simp -dsimp only[go_sem,f18];rfl,fun j hj=>?_,fun t ht=>?_⟩
     ·rw[List.getElem?_set,hse];by_cases hje:e=j
      ·subst hje;rw[if_pos rfl,if_pos (List.getElem?_eq_some_iff.1 hr0).1,if_pos rfl,zero_add];rfl
      ·rw[if_neg hje,if_neg (fun h=>hje h.symm)];exact hrows j hj
     ·rw[aq hlt,het]at ht;rcases List.mem_append.1 ht with ht|ht
      ·exact hgood t ht
      ·simp at ht;subst ht;exact hd
  ·have hA:decide ((i:Int)<((U p).length:Int))=false:=aG aw;obtain rfl:i=(U p).length:=aw;rw[List.take_length]at hrows hgood;simp -dsimp only[go_sem,h9,k0,hA,az];refine⟨(aA hK),hKB,hKE,?_,rows,h19,?_⟩
   ·intro j hj;by_cases hc:p.c j=0
    ·rw[hc];decide
    ·exact hgood _ (J5 hc)
   ·intro j hj;rw[<-zx p j];exact hrows j hj
 ·rintro e τ β ε π hK hKB hKE h;refine⟨_,bA.refl _,?_⟩;rcases h with⟨rfl,hg,rows,h19,hrows⟩|⟨rfl,hg,h6,h7⟩
  ·have k8:τ 8 = .sl 18 1 (aa p):=(hK 8 rfl).trans rfl;have el:(aa p:Int)-1=((aa p-1:Nat):Int):=aw;simp -dsimp only[go_sem,k8];refine ap 10 [] false true ?_;simp -dsimp only[go_sem,k8,h19,el]
   repeat(refine And.intro aw ?_)
   refine⟨_,hrows (aa p-1) aw,?_⟩;simp -dsimp only[go_sem,zr];have htake:rows.take (aa p)=(fD p).map zr:=by
    refine List.ext_getElem? fun j=>?_;rw[List.getElem?_take,List.getElem?_map];split
    ·rename_i hj;rw[hrows j hj,aD (by rw[eh];exact hj)];simp[fD]
    ·rename_i hj;rw[List.getElem?_eq_none (by rw[eh];omega)];rfl
   have hnz:(!decide ((((rq (p.c (aa p-1))).val:Nat):Int)=0))=decide (rq (lc p)≠0):=by
    rw[show lc p=p.c (aa p-1)from rfl];by_cases h0:rq (p.c (aa p-1))=0
    ·rw[h0];rfl
    ·have h1:(rq (p.c (aa p-1))).val≠0:=fun h=>h0 (lV h);rw[aF h0,aG aw];rfl
   rw[rE,if_pos hg,htake,hnz]
  ·simp -dsimp only[go_sem,h6,h7];rw[rE,if_neg hg]
noncomputable def rbnd (p q:PQ):Int:=if fJ p/\fJ q then(aa (euc (fD q).length (zp (fD p)) (zp (fD q))):Int)-1 else(aa p:Int)-1
theorem N6 (r:PZ):TrZ (zli r):=fun h=>by
 rw[lW]at h;have e:(zli r)[(zli r).length-1]=r.c (aa r-1):=by simp[zli]
 rw[e];exact kD aw
theorem N4 (r:PZ):zp (zli r)=r:=Alg.P.ext fun i=>by
 by_cases h:i<aa r
 ·rw[mO (by rw[lW];exact h)];simp[zli]
 ·rw[pH (by rw[lW];omega),aO aw]
set_option maxHeartbeats 1600000 in
theorem vp {p q:PQ} {h k:Nat} (hp:am h p) (hq:am k q) (hb:h<=137438953000) (hb':k<=137438953000) (hp0:p≠0) (hq0:q≠0) (sp:aa p<=1048576) (sq:aa q<=1048576):Fn Tryz.prog 134 [iUp p,iUp q,iN 0] [iN (rbnd p q)]:=by
 have hp1:=aR hp0;have hq1:=aR hq0;refine aJ (fn:=Tryz.f134) ?_;simp -dsimp only[go_sem];refine a8 [(6,47)] [] [] (fun n τ β ε=>∃ i:Nat,n=3-i/\i<=3/\τ 7 = .i (iN ((17+100*i:Nat):Int))/\(1<=i->¬ (fJ p/\fJ q)))
  (fun e τ β ε=>(e = .exit 0/\¬ (fJ p/\fJ q))\/(e = .ret/\τ 6 = .i (iN (rbnd p q)))) 3 ?_ ?_ ?_
 ·exact⟨0,aw,aw,rfl,fun h=>by omega⟩
 ·rintro n τ β ε π hK hKB hKE ⟨i,hn,hi,h7,hbad⟩;have k0:τ 0 = .i (iUp p):=(hK 0 rfl).trans rfl;have k1:τ 1 = .i (iUp q):=(hK 1 rfl).trans rfl;have k2:τ 2 = .i (iN 0):=(hK 2 rfl).trans rfl;by_cases hlt:i<3
  ·have hA:decide (((17+100*i:Nat):Int)<300)=true:=aF aw;have ea:((17+100*i:Nat):Int) % 18446744073709551616=((17+100*i:Nat):Int):=aw;simp -dsimp only[go_sem,h7,k0,k1,k2,hA,ea];refine aK (px hp hb hp0 sp (17+100*i) aw) ?_;by_cases g1:fJ p
   ·rw[jI g1];simp -dsimp only[go_sem,h7,k1,k2,ea];refine aK (px hq hb' hq0 sq (17+100*i) aw) ?_;by_cases g2:fJ q
    ·rw[jI g2];have lx:=eh p;have ly:=eh q;simp -dsimp only[go_sem];refine a8 [(8,8),(10,10),(38,44)] [] [] (fun n τ' β' ε'=>∃ x y:List Zp,n=y.length/\0<x.length/\TrZ x/\TrZ y/\x.length<=1048576/\y.length<=1048576/\euc (fD q).length (zp (fD p)) (zp (fD q))=euc y.length (zp x) (zp y)/\τ' 8 = .i (zl x)/\τ' 10 = .i (zl y))
      (fun e τ' β' ε'=>e = .exit 2/\∃ x:List Zp,0<x.length/\x.length<=1048576/\TrZ x/\euc (fD q).length (zp (fD p)) (zp (fD q))=zp x/\τ' 8 = .i (zl x)) (fD q).length ?_ ?_ ?_
     ·exact⟨fD p,fD q,rfl,aw,uI g1.2,uI g2.2,aw,aw,rfl,rfl,rfl⟩
     ·rintro n2 τ2 β2 ε2 π2 hK2 hKB2 hKE2 ⟨x,y,hn2,x0,tx,ty,sx,sy,he,h8,h10⟩;by_cases hy:0<y.length
      ·have dA:decide ((0:Int)<(y.length:Int))=true:=aF aw;have hy':zp y≠0:=fun e=>by
        have:=kY ty;rw[e,aM.2 rfl]at this;omega
       obtain⟨s,e1,e2⟩:=H0 (zp x) hy';rw[kY ty]at e2;simp -dsimp only[go_sem,h8,h10,dA,az];refine ao (Kb x0 hy tx ty sx sy) rfl ?_;simp -dsimp only[go_sem];refine again (zli (rm (zp x) (zp y))).length (by rw[lW];omega) ⟨(aA hK2),hKB2,hKE2,y,zli (rm (zp x) (zp y)),rfl,hy,ty,N6 _,sy,by rw[lW];omega,?_,by simp -dsimp only[go_sem,h10],(by simp -dsimp only[go_sem];try rfl)⟩
       rw[he,N4,lW];obtain⟨m,hm⟩:∃ m,y.length=m+1:=⟨y.length-1,aw⟩;rw[hm];simp only[euc];rw[if_neg hy'];exact uV _ _ _ _ (ay _) aw
      ·have dA:decide ((0:Int)<(y.length:Int))=false:=aG aw;simp -dsimp only[go_sem,h10,dA,az];refine⟨(aA hK2),hKB2,hKE2,x,x0,sx,tx,?_,h8⟩;rw[he,show y.length=0 by omega];rfl
     ·rintro e τ2 β2 ε2 π2 hK2 hKB2 hKE2 ⟨rfl,x,x0,sx,tx,he,h8⟩;have kO:=Kp.step2 hK hK2 (by intro n;simp[inR]<;>omega) (aA hK);have kB:=Kp.step2 hKB hKB2 (by intro n;simp[inR]) hKB;have kE:=Kp.step2 hKE hKE2 (by intro n;simp[inR]) hKE;simp -dsimp only[go_sem,h8,az]
      repeat(refine And.intro aw ?_)
      have:rbnd p q=(x.length:Int)-1:=by rw[rbnd,if_pos ⟨g1,g2⟩,he,kY tx]
      rw[this]
    ·obtain⟨L,hL⟩:=lG g2;rw[hL];simp -dsimp only[go_sem,h7]
     repeat(refine And.intro aw ?_)
     exact again (3-(i+1)) aw ⟨(aA hK),hKB,hKE,i+1,rfl,aw,by simp -dsimp only[go_sem];refine congrArg (fun z=>AV.i (.c (.v (.int .i64 z)))) ?_;omega,fun _ h=>g2 h.2⟩
   ·obtain⟨L,hL⟩:=lG g1;rw[hL];simp -dsimp only[go_sem,h7,k1,k2,ea];refine aK (px hq hb' hq0 sq (17+100*i) aw) ?_;obtain⟨M,b,hM⟩:∃(M:List Zp) (b:Bool),rE q=[zl M,iB b]:=by
     by_cases g2:fJ q
     ·exact⟨_,_,jI g2⟩
     ·obtain⟨M,hM⟩:=lG g2;exact⟨M,_,hM⟩
    rw[hM];simp -dsimp only[go_sem,h7]
    repeat(refine And.intro aw ?_)
    exact again (3-(i+1)) aw ⟨(aA hK),hKB,hKE,i+1,rfl,aw,by simp -dsimp only[go_sem];refine congrArg (fun z=>AV.i (.c (.v (.int .i64 z)))) ?_;omega,fun _ h=>g1 h.1⟩
  ·have hA:decide (((17+100*i:Nat):Int)<300)=false:=aG aw;simp -dsimp only[go_sem,h7,hA];exact⟨(aA hK),hKB,hKE,hbad aw⟩
 ·rintro e τ β ε π hK hKB hKE h;rcases h with⟨rfl,hbad⟩|⟨rfl,h6⟩
  ·have k0:τ 0 = .i (iUp p):=(hK 0 rfl).trans rfl;have k2:τ 2 = .i (iN 0):=(hK 2 rfl).trans rfl;simp -dsimp only[go_sem,k0,k2];refine aK (gk p sp) ?_;simp -dsimp only[go_sem];rw[rbnd,if_neg hbad]
  ·simp -dsimp only[go_sem,h6]
theorem H9 {p q:PQ} (hp:2<=aa p) (hq:2<=aa q) (hle:aa q<=aa p) (h:rbnd p q=0):Cop p q:=by
 refine Ez hp hq ?_;rw[rbnd]at h;by_cases g:fJ p/\fJ q
 ·rw[if_pos g]at h;rw[bnd,if_pos g,qm,if_neg (by rw[eh,eh];omega)];exact h
 ·rw[if_neg g]at h;omega
end Go.AM
