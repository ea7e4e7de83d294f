/- Lemmas, part 19 of 23. No condition. -/
import Derived.Test.YtcmfkhicjhliaaaGreatPZ817
set_option maxRecDepth 65536
set_option linter.unusedSimpArgs false
set_option linter.unusedVariables false
set_option linter.unusedSectionVars false
namespace Go.AM
open Go.Proofs
def mX (a:List Tm) (m:Tm):List Tm:=a.map fun x=>(x.1.add m.1,x.2*m.2)
def fe (a:List Tm) (m:Tm):List Tm:=if m.2=0 then[]else mX a m
set_option maxHeartbeats 1000000 in
theorem qN (a:List Tm) (m:Tm) (hl:a.length<=1099511627776) (ha:∀ t∈a,QB 17179869184 t.2) (hm:QB 17179869184 m.2) (hea:∀ t∈a,t.1.lt 2305843009213693952) (hem:m.1.lt 2305843009213693952):Fn Tryz.prog 103 [iM a,.g (eT m)] [iM (fe a m)]:=by
 refine aJ (fn:=Tryz.f103) ?_;simp -dsimp only[go_sem];refine cf 5 9 8 (rs:=[]) rfl au ?_;refine br [(5,8),(10,52)] [(7,7)] [(9,9),(52,52)] (fun n τ β ε=>∃ i:Nat,n=a.length-i/\i<=a.length/\(m.2=0->i=0)/\τ 6 = .i (iN i)/\Own 8 ((mX (a.take i) m).map eT) 5 9 τ ε)
  (fun e τ β ε=>e = .exit 0/\Own 8 ((fe a m).map eT) 5 9 τ ε) a.length ?_ ?_ ?_
 ·exact⟨0,aw,aw,fun _=>rfl,rfl,Own.mk (g:=1) (mm:=false) aw rfl rfl rfl⟩
 ·rintro n τ β ε π hK hKB hKE ⟨i,hn,hi,hz,h6,g,mm,hg,h5,h9⟩;have hol:(mX (a.take i) m).length=i:=by simp[mX];omega
  have h5':τ 5 = .sl 9 g i:=by rw[h5,az,hol]
  have k0:τ 0 = .i (iM a):=(hK 0 rfl).trans rfl;have k3:τ 3 = .bp 3 1 0:=(hK 3 rfl).trans rfl;have b3:β 3=⟨1,eT m⟩:=(hKB 3 rfl).trans rfl;by_cases hA:i<a.length
  ·have dA:decide ((i:Int)<(a.length:Int))=true:=aF aw;have ga:a[i]?=some a[i]:=by simp[hA]
   simp -dsimp only[go_sem,h6,k0,k3,b3,dA,az,Int.reduceToNat,Int.reduceLE,aC];refine ao (ir m.2) rfl ?_;by_cases h0:m.2=0
   ·have e3:decide (m.2.num.sign=0)=true:=by rw[bQ];exact aF h0
    obtain rfl:=hz h0;simp -dsimp only[go_sem,e3];exact⟨(aA hK),hKB,hKE,Own.mk (len:=0) hg h5' (by simp[fe,h0]) (by rw[h9,fe,if_pos h0];rfl)⟩
   ·have e3:decide (m.2.num.sign=0)=false:=by rw[bQ];exact aG h0
    simp -dsimp only[go_sem,e3,h6,k0];refine aQ ga ?_;simp -dsimp only[go_sem,e3,h6,k0,Int.reduceToNat,Int.reduceLE,aC];refine be [(8,8),(27,39)] [(7,7)] [] (fun n τ' β' ε'=>∃ k:Nat,n=4-k/\k<=4/\τ' 8 = .i (iN k)/\β' 7=⟨(β 7).gen+1,(a[i].1.part m.1 k).cs⟩)
     (fun e τ' β' ε'=>e = .exit 2/\β' 7=⟨(β 7).gen+1,(a[i].1.add m.1).cs⟩) 4 ?_ ?_ ?_
    ·exact⟨0,aw,aw,rfl,rfl⟩
    ·rintro n2 τ2 β2 ε2 π2 hK2 hKB2 hKE2 ⟨k,hn2,hk,h8,c7⟩;have r7:τ2 7 = .bp 7 ((β 7).gen+1) 0:=(hK2 7 rfl).trans rfl;have r3:τ2 3 = .bp 3 1 0:=(hK2 3 rfl).trans k3;have c3:β2 3=⟨1,eT m⟩:=(hKB2 3 rfl).trans b3;have ex:=hea _ (List.getElem_mem hA);have ey:=hem;unfold Ex.lt at ex ey;obtain rfl|rfl|rfl|rfl|rfl:k=0\/k=1\/k=2\/k=3\/k=4:=aw
     ·have h8':τ2 8 = .i (iN 0):=h8;simp -dsimp only[go_sem,h8',Int.reduceLT,decide_true,decide_false,r7,r3,c7,c3];refine ap 9 [] false true ?_;simp -dsimp only[go_sem,h8',r7,r3,c7,c3,Int.reduceToNat,Int.reduceLE,aC,Int.reduceAdd,Ex.part,Nat.not_lt_zero]
      repeat(refine And.intro aw ?_)
      refine again (4-1) aw ⟨(aA hK2),(aA hKB2),hKE2,1,rfl,aw,rfl,?_⟩;simp -dsimp only[go_sem,Ex.part,Nat.not_lt_zero]
     ·have h8':τ2 8 = .i (iN 1):=h8;simp -dsimp only[go_sem,h8',Int.reduceLT,decide_true,decide_false,r7,r3,c7,c3];refine ap 9 [] false true ?_;simp -dsimp only[go_sem,h8',r7,r3,c7,c3,Int.reduceToNat,Int.reduceLE,aC,Int.reduceAdd,Ex.part,Nat.not_lt_zero]
      repeat(refine And.intro aw ?_)
      refine again (4-2) aw ⟨(aA hK2),(aA hKB2),hKE2,2,rfl,aw,rfl,?_⟩;simp -dsimp only[go_sem,Ex.part,Nat.not_lt_zero]
     ·have h8':τ2 8 = .i (iN 2):=h8;simp -dsimp only[go_sem,h8',Int.reduceLT,decide_true,decide_false,r7,r3,c7,c3];refine ap 9 [] false true ?_;simp -dsimp only[go_sem,h8',r7,r3,c7,c3,Int.reduceToNat,Int.reduceLE,aC,Int.reduceAdd,Ex.part,Nat.not_lt_zero]
      repeat(refine And.intro aw ?_)
      refine again (4-3) aw ⟨(aA hK2),(aA hKB2),hKE2,3,rfl,aw,rfl,?_⟩;simp -dsimp only[go_sem,Ex.part,Nat.not_lt_zero]
     ·have h8':τ2 8 = .i (iN 3):=h8;simp -dsimp only[go_sem,h8',Int.reduceLT,decide_true,decide_false,r7,r3,c7,c3];refine ap 9 [] false true ?_;simp -dsimp only[go_sem,h8',r7,r3,c7,c3,Int.reduceToNat,Int.reduceLE,aC,Int.reduceAdd,Ex.part,Nat.not_lt_zero]
      repeat(refine And.intro aw ?_)
      refine again (4-4) aw ⟨(aA hK2),(aA hKB2),hKE2,4,rfl,aw,rfl,?_⟩;simp -dsimp only[go_sem,Ex.part,Nat.not_lt_zero]
     ·have h8':τ2 8 = .i (iN 4):=h8;simp -dsimp only[go_sem,h8',Int.reduceLT,decide_true,decide_false];exact⟨(aA hK2),hKB2,hKE2,c7⟩
    ·rintro e τ2 β2 ε2 π2 hK2 hKB2 hKE2 ⟨rfl,c7⟩;have r7:τ2 7 = .bp 7 ((β 7).gen+1) 0:=(hK2 7 rfl).trans rfl;have r3:τ2 3 = .bp 3 1 0:=(hK2 3 rfl).trans k3;have c3:β2 3=⟨1,eT m⟩:=(hKB2 3 rfl).trans b3;have r0:τ2 0 = .i (iM a):=(hK2 0 rfl).trans k0;have r6:τ2 6 = .i (iN i):=(hK2 6 rfl).trans h6;have r5:τ2 5 = .sl 9 g i:=(hK2 5 rfl).trans h5';have f9:ε2 9=⟨g,8,(mX (a.take i) m).map eT,mm,true⟩:=(hKE2 9 rfl).trans h9;have kO:=Kp.step2 hK hK2 (by intro n;simp[inR]<;>omega) (aA hK);have kB:=Kp.step2 hKB hKB2 (by intro n;simp[inR]<;>omega) (aA hKB);have kE:=Kp.step2 hKE hKE2 (by intro n;simp[inR]) hKE;refine ap 14 [] true false ?_;simp -dsimp only[go_sem,r7,r3,c7,c3,r0,r6,r5,f9,hg,Int.reduceToNat,Int.reduceLE,aC];refine aQ ga ?_;simp -dsimp only[go_sem,r7,r3,c7,c3,r0,r6,r5,f9,hg,Int.reduceToNat,Int.reduceLE,aC];refine aO (args':=[iQ a[i].2,iQ m.2]) rfl (Jv _ _ (ha _ (List.getElem_mem _)) hm) ?_;simp -dsimp only[go_sem,r7,r3,c7,c3,r0,r6,r5,f9,hg,Int.reduceToNat,Int.reduceLE,aC,az,hol]
     repeat(refine And.intro aw ?_)
     refine bc (a.length-(i+1)) 5 52 9 aw rfl rfl aw aH ⟨(aA kO),kB,(aA kE),i+1,rfl,aw,fun h=>absurd h h0,rfl,?_⟩;refine Own.mk2 (Nat.succ_pos _) (by simp -dsimp only[go_sem];rfl) (by simp -dsimp only[go_sem];rfl) (by simp[hol]) ?_;rw[aq hA,mX,mX,List.map_append,List.map_append];rfl
  ·have dA:decide ((i:Int)<(a.length:Int))=false:=aG aw;obtain rfl:i=a.length:=aw;have ht:mX (a.take a.length) m=fe a m:=by
    rw[List.take_length,fe];by_cases h0:m.2=0
    ·rw[if_pos h0];have:=hz h0;rw[List.length_eq_zero_iff.1 this];rfl
    ·rw[if_neg h0]
   simp -dsimp only[go_sem,h6,k0,dA,az];rw[ht]at h5 h9;rw[az]at h5;exact⟨(aA hK),hKB,hKE,Own.mk hg h5 au h9⟩
 ·rintro e τ β ε π hK hKB hKE ⟨rfl,g,mm,hg,h5,h9⟩;rw[az]at h5;refine⟨_,bA.refl _,?_⟩;simp -dsimp only[go_sem,h5,h9,hg]
theorem Gk (e:Ex):e.add e0=e:=by cases e;simp[Ex.add,e0]
theorem ES (a:List Tm) (c:Rat):fe a (e0,c)=d7 a c:=by
 unfold fe d7 mX;simp only[Gk]
theorem Qd:e0.lt 2305843009213693952:=by unfold Ex.lt e0;decide
theorem uD (a:List Tm) (c:Rat) (hl:a.length<=1099511627776) (ha:∀ t∈a,QB 17179869184 t.2) (hc:QB 17179869184 c) (hea:∀ t∈a,t.1.lt 2305843009213693952):Fn Tryz.prog 85 [iM a,iQ c] [iM (d7 a c)]:=by
 refine aJ (fn:=Tryz.f85) ?_;simp -dsimp only[go_sem];refine ao (qN a (e0,c) hl ha hc hea Qd) rfl ?_;rw[ES];simp -dsimp only[go_sem]
theorem Jk (a b:List Tm) (hl:a.length+b.length<=1099511627776) (ha:∀ t∈a,QB 8589934592 t.2) (hb:∀ t∈b,QB 8589934592 t.2) (heb:∀ t∈b,t.1.lt 2305843009213693952):Fn Tryz.prog 174 [iM a,iM b] [iM (EV a b)]:=by
 refine aJ (fn:=Tryz.f174) ?_;simp -dsimp only[go_sem];refine aK (dJ (-1) aH) ?_;simp -dsimp only[go_sem];refine aO (args':=[iM b,iQ (-1)]) rfl (uD b (-1) aw (fun t ht=>(hb t ht).mono' aH) (oP _ aH) heb) ?_;simp -dsimp only[go_sem];refine aK (pU a (d7 b (-1)) ?_ ha ?_) ?_
 ·rw[ju _ aH];simp;omega
 ·intro t ht;rw[ju _ aH]at ht;obtain⟨u,hu,rfl⟩:=List.mem_map.1 ht;exact(hb u hu).neg
 simp -dsimp only[go_sem];rfl
theorem iA (v:Nat) (hv:v<4):Fn Tryz.prog 58 [iN v] [iM [(e0.to v 1,1)]]:=by
 obtain rfl|rfl|rfl|rfl:v=0\/v=1\/v=2\/v=3:=aw
 all_goals
  refine aJ (fn:=Tryz.f58) ?_;simp -dsimp only[go_sem];refine aK (dJ 1 aH) ?_;simp -dsimp only[go_sem];rfl
def tD (a b:List Tm):List Tm:=b.foldl (fun o y=>gu o (fe a y)) []
theorem A4 (a:List Tm) (m:Tm):(fe a m).length<=a.length:=by
 unfold fe mX;split<;>simp
theorem Ag (a b:List Tm) (hla:a.length<=1048576) (hlb:b.length<=1048576) (ha:∀ t∈a,QB 17179869184 t.2) (hb:∀ t∈b,QB 17179869184 t.2) (hea:∀ t∈a,t.1.lt 2305843009213693952) (heb:∀ t∈b,t.1.lt 2305843009213693952)
  (hq:∀(i:Nat) (h:i<b.length),(∀ t∈tD a (b.take i),QB 8589934592 t.2)/\(∀ t∈fe a b[i],QB 8589934592 t.2)/\(tD a (b.take i)).length<=549755813888):Fn Tryz.prog 57 [iM a,iM b] [iM (tD a b)]:=by
 refine aJ (fn:=Tryz.f57) ?_;simp -dsimp only[go_sem];refine nL (bA.imm _ 5 (x:=iM []) rfl) ?_;refine be [(5,6),(8,21)] [] [] (fun n τ β ε=>∃ i:Nat,n=b.length-i/\i<=b.length/\τ 6 = .i (iN i)/\τ 5 = .i (iM (tD a (b.take i))))
  (fun e τ β ε=>e = .exit 0/\τ 5 = .i (iM (tD a b))) b.length ?_ ?_ ?_
 ·exact⟨0,aw,aw,rfl,rfl⟩
 ·rintro n τ β ε π hK hKB hKE ⟨i,hn,hi,h6,h5⟩;have k0:τ 0 = .i (iM a):=(hK 0 rfl).trans rfl;have k1:τ 1 = .i (iM b):=(hK 1 rfl).trans rfl;by_cases hA:i<b.length
  ·have dA:decide ((i:Int)<(b.length:Int))=true:=aF aw;have gb:b[i]?=some b[i]:=by simp[hA]
   obtain⟨q1,q2,q3⟩:=hq i hA;simp -dsimp only[go_sem,h6,h5,k0,k1,dA,az];refine aQ gb ?_;simp -dsimp only[go_sem,h6,h5,k0,k1,dA,az,Int.reduceToNat,Int.reduceLE,aC];refine aK (qN a b[i] aw ha (hb _ (List.getElem_mem _)) hea (heb _ (List.getElem_mem _))) ?_;simp -dsimp only[go_sem,h6,h5,k0,k1];refine aK (pU _ _ ?_ q1 q2) ?_
   ·have:=A4 a b[i];omega
   simp -dsimp only[go_sem,h6]
   repeat(refine And.intro aw ?_)
   refine again (b.length-(i+1)) aw ⟨(aA hK),hKB,hKE,i+1,rfl,aw,rfl,?_⟩;simp -dsimp only[go_sem];rw[aq hA];unfold tD;rw[List.foldl_append];rfl
  ·have dA:decide ((i:Int)<(b.length:Int))=false:=aG aw;obtain rfl:i=b.length:=aw;rw[List.take_length]at h5;simp -dsimp only[go_sem,h6,k1,dA,az];exact⟨(aA hK),hKB,hKE,h5⟩
 ·rintro e τ β ε π hK hKB hKE ⟨rfl,h5⟩;simp -dsimp only[go_sem,h5]
def atR:List Tm->Ex->Nat
 | [],_=>0
 | x::p,e=>if 0<cm x.1 e then atR p e+1 else 0
theorem I6 (e:Ex):∀ p:List Tm,atR p e<=p.length
 | []=>ay _
 | x::p=>by unfold atR;have:=I6 e p;split<;>simp<;>omega
theorem I5 (e:Ex):∀(p:List Tm) (i:Nat) (_:i<atR p e) (h:i<p.length),0<cm p[i].1 e
 | [],_,h,_=>by simp[atR]at h
 | x::p,i,h,hl=>by
  unfold atR at h;split at h
  ·rcases i with _|i
   ·assumption
   ·exact I5 e p i aw (by simpa using hl)
  ·omega
theorem DR (e:Ex):∀(p:List Tm) (h:atR p e<p.length),¬ 0<cm (p[atR p e]'h).1 e
 | [],h=>by simp at h
 | x::p,h=>by
  by_cases hx:0<cm x.1 e
  ·have h1:atR (x::p) e=atR p e+1:=by rw[atR,if_pos hx]
   have h2:atR p e<p.length:=by rw[h1]at h;simpa using h
   have:=DR e p h2;simp only[h1,List.getElem_cons_succ];exact this
  ·have h1:atR (x::p) e=0:=by rw[atR,if_neg hx]
   simp only[h1,List.getElem_cons_zero];exact hx
def qt (m:Tm):List Tm->Rat×List Tm
 | []=>(m.2,[])
 | x::r=>if x.1=m.1 then(m.2+x.2,r)else(m.2,x::r)
def n7 (p:List Tm) (m:Tm):List Tm :=
 p.take (atR p m.1)++((if(qt m (p.drop (atR p m.1))).1≠0/\cP m.1 then[(m.1,(qt m (p.drop (atR p m.1))).1)]else[])++(qt m (p.drop (atR p m.1))).2)
theorem gN {rows:List (List C)} {N:Nat} {L:List Tm} (h:rows=L.map eT) (hN:rows.length<=N):some [IV.c (.lst (rows.take N))]=some [iM L]:=by
 rw[List.take_of_length_le hN,h]
set_option maxHeartbeats 1000000 in
theorem Cw (p:List Tm) (m:Tm) (hl:p.length<=1048576) (hp:∀ t∈p,QB 8589934592 t.2) (hm:QB 8589934592 m.2):Fn Tryz.prog 122 [iM p,.g (eT m)] [iM (n7 p m)]:=by
 have hat:=I6 m.1 p;refine aJ (fn:=Tryz.f122) ?_;simp -dsimp only[go_sem];refine be [(5,5),(8,23)] [] [] (fun n τ β ε=>∃ i:Nat,n=p.length-i/\i<=atR p m.1/\τ 5 = .i (iN i))
  (fun e τ β ε=>e = .exit 0/\τ 5 = .i (iN (atR p m.1))) p.length ?_ ?_ ?_
 ·exact⟨0,aw,aw,rfl⟩
 ·rintro n τ β ε π hK hKB hKE ⟨i,hn,hi,h5⟩;have k0:τ 0 = .i (iM p):=(hK 0 rfl).trans rfl;have k3:τ 3 = .bp 3 1 0:=(hK 3 rfl).trans rfl;have b3:β 3=⟨1,eT m⟩:=(hKB 3 rfl).trans rfl;refine ap 14 [] false true ?_;by_cases hA:i<p.length
  ·have dA:decide ((i:Int)<(p.length:Int))=true:=aF aw;have gp:p[i]?=some p[i]:=by simp[hA]
   simp -dsimp only[go_sem,h5,k0,k3,b3,dA,az];refine aQ gp ?_;simp -dsimp only[go_sem,h5,k0,k3,b3,dA,az,Int.reduceToNat,Int.reduceLE,aC];refine aO (args':=[iE p[i].1,iE m.1]) rfl (ko _ _) ?_;by_cases hi':i<atR p m.1
   ·have e1:decide (0<cm p[i].1 m.1)=true:=aF (I5 _ _ _ hi' _);simp -dsimp only[go_sem,e1,h5]
    repeat(refine And.intro aw ?_)
    refine again (p.length-(i+1)) aw ⟨(aA hK),hKB,hKE,i+1,rfl,aw,rfl⟩
   ·obtain rfl:i=atR p m.1:=aw;have e1:decide (0<cm (p[atR p m.1]).1 m.1)=false:=aG (DR _ _ hA);simp -dsimp only[go_sem,e1];exact⟨(aA hK),hKB,hKE,h5⟩
  ·have dA:decide ((i:Int)<(p.length:Int))=false:=aG aw;obtain rfl:i=atR p m.1:=aw;simp -dsimp only[go_sem,h5,k0,k3,b3,dA,az];exact⟨(aA hK),hKB,hKE⟩
 ·rintro e τ β ε π hK hKB hKE ⟨rfl,h5⟩;have k0:τ 0 = .i (iM p):=(hK 0 rfl).trans rfl;have k3:τ 3 = .bp 3 1 0:=(hK 3 rfl).trans rfl;have b3:β 3=⟨1,eT m⟩:=(hKB 3 rfl).trans rfl;unfold n7;generalize atR p m.1=q at *
  simp -dsimp only[go_sem,h5,k0,k3,b3,Int.reduceToNat,Int.reduceLE,aC,az];refine⟨hat,?_,aw,hat,?_⟩
  ·intro r hr;obtain⟨t,-,rfl⟩:=List.mem_map.1 (List.mem_of_mem_take hr);rfl
  have lt:(p.take q).length=q:=by simp;omega
  rcases hr:p.drop q with _|⟨x,r⟩
  ·have dr:(p.map eT).drop q=[]:=by rw[<-List.map_drop,hr];rfl
   have dl:p.length-q=0:=by have:=congrArg List.length hr;simpa using this
   rw[show(qt m []).1=m.2 from rfl,show(qt m []).2=[]from rfl];refine ap 12 [] false true ?_;simp -dsimp only[go_sem,k0,k3,b3,Int.reduceToNat,Int.reduceLE,aC,az,dr,dl,d00];refine ao (ir m.2) rfl ?_;by_cases h0:m.2=0
   ·have e3:decide ((m.2).num.sign=0)=true:=by rw[bQ];exact aF h0
    have e4:¬ (m.2≠0/\cP m.1):=fun h=>h.1 h0;rw[if_neg e4];simp -dsimp only[go_sem,e3,k0,k3,b3,Int.reduceToNat,Int.reduceLE,aC,az,dr,dl]
    repeat(refine And.intro (by first|omega|(simp<;>omega)|simp) ?_)
    exact gN (by simp[List.map_take]<;>first|rfl|exact⟨rfl,rfl⟩) (by simp<;>omega)
   ·have e3:decide ((m.2).num.sign=0)=false:=by rw[bQ];exact aG h0
    simp -dsimp only[go_sem,e3,k0,k3,b3,Int.reduceToNat,Int.reduceLE,aC,az,dr,dl];refine ao (gC m.1) rfl ?_;by_cases hN:cP m.1
    ·have eN:decide (cP m.1)=true:=aF hN;rw[if_pos ⟨h0,hN⟩];simp -dsimp only[go_sem,eN,k0,k3,b3,Int.reduceToNat,Int.reduceLE,aC,az,dr,dl]
     repeat(refine And.intro (by first|omega|(simp<;>omega)|simp) ?_)
     exact gN (by simp[List.map_take]<;>first|rfl|exact⟨rfl,rfl⟩) (by simp<;>omega)
    ·have eN:decide (cP m.1)=false:=aG hN;rw[if_neg fun h=>hN h.2];simp -dsimp only[go_sem,eN,k0,k3,b3,Int.reduceToNat,Int.reduceLE,aC,az,dr,dl]
     repeat(refine And.intro (by first|omega|(simp<;>omega)|simp) ?_)
     exact gN (by simp[List.map_take]<;>first|rfl|exact⟨rfl,rfl⟩) (by simp<;>omega)
  ·have dr:(p.map eT).drop q=(x::r).map eT:=by rw[<-List.map_drop,hr]
   have dl:p.length-q=(x::r).length:=by have:=congrArg List.length hr;simpa using this
   have dt:((x::r).map eT).drop 1=r.map eT:=rfl;have dq:decide ((0:Int)<((r.length+1:Nat):Int))=true:=aF aw;have gx:(x::r)[0]?=some x:=rfl;have hx:QB 8589934592 x.2:=hp x (List.mem_of_mem_drop (i:=q) (by rw[hr];simp));have hrl:r.length+1<=p.length:=by have:=congrArg List.length hr;simp at this;omega
   refine ap 12 [] false true ?_;simp -dsimp only[go_sem,k0,k3,b3,Int.reduceToNat,Int.reduceLE,aC,az,dr,dl,dq];refine sF (e:=x.1) (f:=m.1) ?_;by_cases hxm:x.1=m.1
   ·have e1:decide (x.1=m.1)=true:=aF hxm;rw[show qt m (x::r)=(m.2+x.2,r)from if_pos hxm];simp -dsimp only[go_sem,e1];refine ap 8 [] false true ?_;simp -dsimp only[go_sem,k0,k3,b3,Int.reduceToNat,Int.reduceLE,aC,az,dr,dl,dq];refine aO (args':=[iQ m.2,iQ x.2]) rfl (uO _ _ hm hx) ?_;simp -dsimp only[go_sem,k0,k3,b3,Int.reduceToNat,Int.reduceLE,aC,az,dr,dl,dt];refine ao (ir (m.2+x.2)) rfl ?_;by_cases h0:(m.2+x.2)=0
    ·have e3:decide (((m.2+x.2)).num.sign=0)=true:=by rw[bQ];exact aF h0
     have e4:¬ ((m.2+x.2)≠0/\cP m.1):=fun h=>h.1 h0;rw[if_neg e4];simp -dsimp only[go_sem,e3,k0,k3,b3,Int.reduceToNat,Int.reduceLE,aC,az,dr,dl]
     repeat(refine And.intro (by first|omega|(simp<;>omega)|simp) ?_)
     exact gN (by simp[List.map_take]<;>first|rfl|exact⟨rfl,rfl⟩) (by simp<;>omega)
    ·have e3:decide (((m.2+x.2)).num.sign=0)=false:=by rw[bQ];exact aG h0
     simp -dsimp only[go_sem,e3,k0,k3,b3,Int.reduceToNat,Int.reduceLE,aC,az,dr,dl];refine ao (gC m.1) rfl ?_;by_cases hN:cP m.1
     ·have eN:decide (cP m.1)=true:=aF hN;rw[if_pos ⟨h0,hN⟩];simp -dsimp only[go_sem,eN,k0,k3,b3,Int.reduceToNat,Int.reduceLE,aC,az,dr,dl]
      repeat(refine And.intro (by first|omega|(simp<;>omega)|simp) ?_)
      exact gN (by simp[List.map_take]<;>first|rfl|exact⟨rfl,rfl⟩) (by simp<;>omega)
     ·have eN:decide (cP m.1)=false:=aG hN;rw[if_neg fun h=>hN h.2];simp -dsimp only[go_sem,eN,k0,k3,b3,Int.reduceToNat,Int.reduceLE,aC,az,dr,dl]
      repeat(refine And.intro (by first|omega|(simp<;>omega)|simp) ?_)
      exact gN (by simp[List.map_take]<;>first|rfl|exact⟨rfl,rfl⟩) (by simp<;>omega)
   ·have e1:decide (x.1=m.1)=false:=aG hxm;rw[show qt m (x::r)=(m.2,x::r)from if_neg hxm];simp -dsimp only[go_sem,k0,k3,b3,Int.reduceToNat,Int.reduceLE,aC,az,dr,dl,e1];refine ao (ir m.2) rfl ?_;by_cases h0:m.2=0
    ·have e3:decide ((m.2).num.sign=0)=true:=by rw[bQ];exact aF h0
     have e4:¬ (m.2≠0/\cP m.1):=fun h=>h.1 h0;rw[if_neg e4];simp -dsimp only[go_sem,e3,k0,k3,b3,Int.reduceToNat,Int.reduceLE,aC,az,dr,dl]
     repeat(refine And.intro (by first|omega|(simp<;>omega)|simp) ?_)
     exact gN (by simp[List.map_take]<;>first|rfl|exact⟨rfl,rfl⟩) (by simp<;>omega)
    ·have e3:decide ((m.2).num.sign=0)=false:=by rw[bQ];exact aG h0
     simp -dsimp only[go_sem,e3,k0,k3,b3,Int.reduceToNat,Int.reduceLE,aC,az,dr,dl];refine ao (gC m.1) rfl ?_;by_cases hN:cP m.1
     ·have eN:decide (cP m.1)=true:=aF hN;rw[if_pos ⟨h0,hN⟩];simp -dsimp only[go_sem,eN,k0,k3,b3,Int.reduceToNat,Int.reduceLE,aC,az,dr,dl]
      repeat(refine And.intro (by first|omega|(simp<;>omega)|simp) ?_)
      exact gN (by simp[List.map_take]<;>first|rfl|exact⟨rfl,rfl⟩) (by simp<;>omega)
     ·have eN:decide (cP m.1)=false:=aG hN;rw[if_neg fun h=>hN h.2];simp -dsimp only[go_sem,eN,k0,k3,b3,Int.reduceToNat,Int.reduceLE,aC,az,dr,dl]
      repeat(refine And.intro (by first|omega|(simp<;>omega)|simp) ?_)
      exact gN (by simp[List.map_take]<;>first|rfl|exact⟨rfl,rfl⟩) (by simp<;>omega)
def mY (l:List Tm):List Tm:=l.foldl n7 []
theorem Ah (l:List Tm) (hl:l.length<=1048576) (hb:∀ t∈l,QB 8589934592 t.2)
  (hq:∀(i:Nat) (_:i<l.length),(∀ t∈mY (l.take i),QB 8589934592 t.2)/\(mY (l.take i)).length<=1048576):Fn Tryz.prog 88 [iM l] [iM (mY l)]:=by
 refine aJ (fn:=Tryz.f88) ?_;simp -dsimp only[go_sem];refine nL (bA.imm _ 3 (x:=iM []) rfl) ?_;refine be [(3,4),(6,17)] [] [] (fun n τ β ε=>∃ i:Nat,n=l.length-i/\i<=l.length/\τ 4 = .i (iN i)/\τ 3 = .i (iM (mY (l.take i))))
  (fun e τ β ε=>e = .exit 0/\τ 3 = .i (iM (mY l))) l.length ?_ ?_ ?_
 ·exact⟨0,aw,aw,rfl,rfl⟩
 ·rintro n τ β ε π hK hKB hKE ⟨i,hn,hi,h6,h5⟩;have k0:τ 0 = .i (iM l):=(hK 0 rfl).trans rfl;by_cases hA:i<l.length
  ·have dA:decide ((i:Int)<(l.length:Int))=true:=aF aw;have gb:l[i]?=some l[i]:=by simp[hA]
   obtain⟨q1,q2⟩:=hq i hA;simp -dsimp only[go_sem,h6,h5,k0,dA,az];refine aQ gb ?_;simp -dsimp only[go_sem,h6,h5,k0,dA,az,Int.reduceToNat,Int.reduceLE,aC];refine aO (args':=[iM (mY (l.take i)),.g (eT l[i])]) rfl (Cw _ l[i] q2 q1 (hb _ (List.getElem_mem _))) ?_;simp -dsimp only[go_sem,h6]
   repeat(refine And.intro aw ?_)
   refine again (l.length-(i+1)) aw ⟨(aA hK),hKB,hKE,i+1,rfl,aw,rfl,?_⟩;simp -dsimp only[go_sem];rw[aq hA];unfold mY;rw[List.foldl_append];rfl
  ·have dA:decide ((i:Int)<(l.length:Int))=false:=aG aw;obtain rfl:i=l.length:=aw;rw[List.take_length]at h5;simp -dsimp only[go_sem,h6,k0,dA,az];exact⟨(aA hK),hKB,hKE,h5⟩
 ·rintro e τ β ε π hK hKB hKE ⟨rfl,h5⟩;simp -dsimp only[go_sem,h5]
theorem Ft (e:Ex) (c:Rat) (he:cP e):mY [(e,c)]=if c=0 then[]else[(e,c)]:=by
 show n7 [] (e,c)=_;simp only[n7,atR,List.take_nil,List.nil_append,List.drop_nil,qt,List.append_nil];by_cases h:c=0<;>simp[h,he]
theorem KF:cP e0:=by unfold cP e0;decide
theorem nZ (c:Rat) (hc:QB 8589934592 c):Fn Tryz.prog 115 [iQ c] [iM (gt c)]:=by
 refine aJ (fn:=Tryz.f115) ?_;simp -dsimp only[go_sem];refine aO (args':=[iM [(e0,c)]]) rfl (Ah [(e0,c)] au (by simpa using hc) ?_) ?_
 ·intro i hi;obtain rfl:i=0:=by simp at hi;omega
  exact⟨by simp[mY],by simp[mY]⟩
 rw[Ft _ _ KF];simp -dsimp only[go_sem];rfl
theorem oQ {n:Int} (h : -9223372036854775808<=n/\n<9223372036854775808) (k:Nat) (hk:3<=k):QB k (n:Rat):=by
 refine ia (h:=64) ?_ ?_ aw
 ·rw[Rat.num_intCast];omega
 ·rw[Rat.den_intCast];decide
theorem F5 (n:Int) (h : -9223372036854775808<=n/\n<9223372036854775808):Fn Tryz.prog 204 [iN n] [iM (gt n)]:=by
 refine aJ (fn:=Tryz.f204) ?_;simp -dsimp only[go_sem];refine aK (dJ n h) ?_;simp -dsimp only[go_sem];refine aO (args':=[iQ (n:Rat)]) rfl (nZ (n:Rat) (oQ h _ aH)) ?_;simp -dsimp only[go_sem]
end Go.AM
namespace Go.AM
open Alg
open Go.Proofs
theorem Js {p q:PQ} {h k:Nat} (hp:am h p) (hq:am k q) (hh:h<=137438953000) (hk:k<=137438953000) (sp:aa p<=1048576) (sq:aa q<=1048576):Fn Tryz.prog 56 [iUp p,iUp q] [iUp (p+q)]:=by
 have:=pU (U p) (U q) (by have:=dc p;have:=dc q;omega) (HB.qb hp aw) (HB.qb hq aw);rwa [DU]at this
theorem Ae {p q:PQ} {h k:Nat} (hp:am h p) (hq:am k q) (hh:h<=137438953000) (hk:k<=137438953000) (sp:aa p<=1048576) (sq:aa q<=1048576):Fn Tryz.prog 174 [iUp p,iUp q] [iUp (p-q)]:=by
 have:=Jk (U p) (U q) (by have:=dc p;have:=dc q;omega) (HB.qb hp aw) (HB.qb hq aw) (Ct aw aw);rwa [M2]at this
theorem l6 {p:PQ} {c:Rat} {h:Nat} (hp:am h p) (hh:h<=274877906000) (sp:aa p<=1048576) (hc:QB 17179869184 c):Fn Tryz.prog 85 [iUp p,iQ c] [iUp (p*an c)]:=by
 have:=uD (U p) c (by have:=dc p;omega) (HB.qb hp aw) hc (Ct aw aw);rwa [nX]at this
theorem xG (p:PQ) {m:Tm} (hm:Uv1 m.1):fe (U p) m=U (p*mon m.1.a.toNat m.2):=by
 have hc:=ja p;by_cases h:m.2=0
 ·rw[fe,if_pos h,h,jw,mul_zero,cp]
 ·rw[fe,if_neg h];have h1:∀{e f:Ex},Uv1 e->Uv1 f->0<cm e f->0<cm (e.add m.1) (f.add m.1):=by
   intro e f he hf h;have:=(jG he hf).1 h;refine(jG (sH he hm).1 (sH hf hm).1).2 ?_;simp only[Ex.add];omega
  have h2:∀ L:List Tm,Uv L->Srt L->Srt (mX L m):=by
   intro L hu hs
   induction L with
   | nil=>exact List.Pairwise.nil
   | cons x L ih =>
    obtain⟨g1,g2⟩:=List.pairwise_cons.1 hs;refine List.pairwise_cons.2 ⟨fun y hy=>?_,ih (fun t ht=>hu t (by simp[ht])) g2⟩;obtain⟨u,hu',rfl⟩:=List.mem_map.1 hy;exact h1 (hu x au) (hu u (by simp[hu'])) (g1 u hu')
  refine vi (L:=mX (U p) m) ⟨h2 _ hc.uv hc.srt,fun t ht=>?_,fun t ht=>?_⟩ ?_
  ·obtain⟨u,hu,rfl⟩:=List.mem_map.1 ht;exact a7 (hc.nz u hu) h
  ·obtain⟨u,hu,rfl⟩:=List.mem_map.1 ht;exact(sH (hc.uv u hu) hm).1
  ·have:∀ L:List Tm,Uv L->toP (mX L m)=toP L*mon m.1.a.toNat m.2:=by
    intro L hu
    induction L with
    | nil=>rw[mX,List.map_nil,cF,zero_mul]
    | cons t L ih =>
     rw[a8,add_mul,<-ih (fun t ht=>hu t (by simp[ht])),dS,mX,List.map_cons,a8];rw[(sH (hu t au) hm).2];rfl
   rw[this _ hc.uv,gw]
theorem Jh (p:PQ):∀(L:List Tm),Uv L->∀ q:PQ,L.foldl (fun o y=>gu o (fe (U p) y)) (U q)=U (q+p*toP L)
 | [],_,q=>by rw[cF,mul_zero,add_zero];rfl
 | t::L,h,q=>by
  rw[List.foldl_cons,xG p (h t au),DU,Jh p L (fun t ht=>h t (by simp[ht])),a8,mul_add,add_assoc]
theorem BB (p:PQ) {L:List Tm} (h:Uv L):tD (U p) L=U (p*toP L):=by
 have:=Jh p L h 0;rw[cp,zero_add]at this;exact this
theorem JY {D:Int}:∀{L:List Tm} {S:Nat},Bd D L S->∃ A:Alg.P Int,an (Alg.hQ.f D)*toP L=toQ A/\Alg.n1 A<=S
 | [],S,_=>⟨0,by rw[cF,mul_zero,cX],by rw[iu];omega⟩
 | t::L,S,⟨z,h1,h2,h3⟩=>by
  obtain⟨A,g1,g2⟩:=JY h3;refine⟨mon t.1.a.toNat z+A,?_,?_⟩
  ·rw[a8,mul_add,g1,j6,nF,<-du,dS,Nat.zero_add];have:Alg.hQ.f D*t.2=Alg.hQ.f z:=h1;rw[this]
  ·have e:=ii t.1.a.toNat z 1;rw[mul_one]at e;have e1:Alg.n1 (1:Alg.P Int)<=1:=by
    refine pq (n:=1) (H:=1) (Nat.le_of_eq (by rw[<-cu];exact jm aH)) (fun i=>?_);rw[<-cu];cases i with
    | zero=>exact ay 1
    | succ i=>exact Nat.zero_le 1
   have e2:z.natAbs*Alg.n1 (1:Alg.P Int)<=z.natAbs:=by
    calc z.natAbs*Alg.n1 (1:Alg.P Int)<=z.natAbs*1:=Nat.mul_le_mul_left _ e1
     _=z.natAbs:=Nat.mul_one _
   have:=lH (mon t.1.a.toNat z) A;omega
theorem HB.part {h:Nat} {p:PQ} (H:am h p) (i:Nat):am h (toP ((U p).take i)):=by
 obtain⟨D,hD,h1,h2⟩:=HB.bd H;obtain⟨A,g1,g2⟩:=JY (h2.take i);exact⟨D,A,hD,h1,g2,g1⟩
theorem HB.term {h:Nat} {p:PQ} (H:am h p) {t:Tm} (ht:t∈U p):am h (mon t.1.a.toNat t.2):=by
 obtain⟨i,_,rfl,_⟩:=ns ht;exact am.mon _ (H.coef i).1 (H.coef i).2
theorem eA {p q:PQ} {h k:Nat} (hp:am h p) (hq:am k q) (hh:h+k<=137438953000) (sp:aa p<=524288) (sq:aa q<=524288):Fn Tryz.prog 57 [iUp p,iUp q] [iUp (p*q)]:=by
 have huq:=(ja q).uv;have:=Ag (U p) (U q) (by have:=dc p;omega) (by have:=dc q;omega) (HB.qb hp aw) (HB.qb hq aw) (Ct aw aw) (Ct aw aw) fun i hi=>by
  have hu:Uv ((U q).take i):=fun t ht=>huq t (List.mem_of_mem_take ht);have hs:aa (toP ((U q).take i))<=aa q:=by
   refine cI fun j hj=>pa (n:=aa q) (fun t ht=>?_) j hj;have h1:=List.mem_of_mem_take ht;obtain⟨n,hn,rfl,_⟩:=ns h1;simp only;omega
  refine⟨?_,?_,?_⟩
  ·rw[BB p hu];exact HB.qb (hp.mul (HB.part hq i)) aw
  ·rw[xG p (huq _ (List.getElem_mem _))];exact HB.qb (hp.mul (HB.term hq (List.getElem_mem _))) aw
  ·rw[BB p hu];have:=dc (p*toP ((U q).take i));have:=bg p (toP ((U q).take i));omega
 rwa [BB p huq,gw]at this
end Go.AM
namespace Go.AM
open Go.Proofs
theorem uL (a:List Tm) (v:Nat) (hv:v<4) (hl:a.length<=1099511627776):Fn Tryz.prog 44 [iM a,iN v] [iN (gr a v)]:=by
 refine aJ (fn:=Tryz.f44) ?_;simp -dsimp only[go_sem];refine be [(5,21)] [] [] (fun n τ β ε=>∃ i:Nat,n=a.length-i/\i<=a.length/\τ 6 = .i (iN i)/\τ 5 = .i (iN (gr (a.take i) v)))
  (fun e τ β ε=>e = .exit 0/\τ 5 = .i (iN (gr a v))) a.length ?_ ?_ ?_
 ·exact⟨0,aw,aw,rfl,rfl⟩
 ·rintro n τ β ε π hK hKB hKE ⟨i,hn,hi,h6,h5⟩;have k0:τ 0 = .i (iM a):=(hK 0 rfl).trans rfl;have k1:τ 1 = .i (iN v):=(hK 1 rfl).trans rfl;by_cases hlt:i<a.length
  ·have dA:decide ((i:Int)<(a.length:Int))=true:=aF aw;have hg:a[i]?=some a[i]:=by simp[hlt]
   have hd:gr (a.take (i+1)) v=max (gr (a.take i) v) (a[i].1.at v):=by rw[aq hlt,vR]
   obtain rfl|rfl|rfl|rfl:v=0\/v=1\/v=2\/v=3:=aw
   ·have k1':τ 1 = .i (iN 0):=k1;simp -dsimp only[go_sem,h6,h5,k0,k1',dA,az,Int.reduceToNat,Int.reduceLE,aC];refine aQ hg ?_;simp -dsimp only[go_sem,h6,h5,k0,k1',dA,Int.reduceToNat,Int.reduceLE,aC]
    repeat(refine And.intro aw ?_)
    refine again (a.length-(i+1)) aw ⟨(aA hK),hKB,hKE,i+1,rfl,aw,rfl,?_⟩;simp -dsimp only[go_sem,hd];rfl
   ·have k1':τ 1 = .i (iN 1):=k1;simp -dsimp only[go_sem,h6,h5,k0,k1',dA,az,Int.reduceToNat,Int.reduceLE,aC];refine aQ hg ?_;simp -dsimp only[go_sem,h6,h5,k0,k1',dA,Int.reduceToNat,Int.reduceLE,aC]
    repeat(refine And.intro aw ?_)
    refine again (a.length-(i+1)) aw ⟨(aA hK),hKB,hKE,i+1,rfl,aw,rfl,?_⟩;simp -dsimp only[go_sem,hd];rfl
   ·have k1':τ 1 = .i (iN 2):=k1;simp -dsimp only[go_sem,h6,h5,k0,k1',dA,az,Int.reduceToNat,Int.reduceLE,aC];refine aQ hg ?_;simp -dsimp only[go_sem,h6,h5,k0,k1',dA,Int.reduceToNat,Int.reduceLE,aC]
    repeat(refine And.intro aw ?_)
    refine again (a.length-(i+1)) aw ⟨(aA hK),hKB,hKE,i+1,rfl,aw,rfl,?_⟩;simp -dsimp only[go_sem,hd];rfl
   ·have k1':τ 1 = .i (iN 3):=k1;simp -dsimp only[go_sem,h6,h5,k0,k1',dA,az,Int.reduceToNat,Int.reduceLE,aC];refine aQ hg ?_;simp -dsimp only[go_sem,h6,h5,k0,k1',dA,Int.reduceToNat,Int.reduceLE,aC]
    repeat(refine And.intro aw ?_)
    refine again (a.length-(i+1)) aw ⟨(aA hK),hKB,hKE,i+1,rfl,aw,rfl,?_⟩;simp -dsimp only[go_sem,hd];rfl
  ·have dA:decide ((i:Int)<(a.length:Int))=false:=aG aw;obtain rfl:i=a.length:=aw;rw[List.take_length]at h5;simp -dsimp only[go_sem,h6,k0,dA,az];exact⟨(aA hK),hKB,hKE,h5⟩
 ·rintro e τ β ε π hK hKB hKE ⟨rfl,h5⟩;simp -dsimp only[go_sem,h5]
theorem eF (a:List Tm) (t:Tm) (v k:Nat):cE (a++[t]) v k=cE a v k++(if t.1.at v=(k:Int)then[(t.1.to v 0,t.2)]else[]):=by
 unfold cE;rw[List.filter_append,List.map_append];by_cases h:t.1.at v=(k:Int)<;>simp[h]
theorem Cz (a:List Tm) (v k:Nat) (hv:v<4) (hl:a.length<=1048576):Fn Tryz.prog 172 [iM a,iN v,iN k] [iM (cE a v k)]:=by
 refine aJ (fn:=Tryz.f172) ?_;simp -dsimp only[go_sem];refine cf 7 10 8 (rs:=[]) rfl au ?_;refine br [(7,9),(11,33)] [(9,9)] [(10,10),(33,33)] (fun n τ β ε=>∃ i:Nat,n=a.length-i/\i<=a.length/\τ 8 = .i (iN i)/\Own 8 ((cE (a.take i) v k).map eT) 7 10 τ ε)
  (fun e τ β ε=>e = .exit 0/\Own 8 ((cE a v k).map eT) 7 10 τ ε) a.length ?_ ?_ ?_
 ·exact⟨0,aw,aw,rfl,Own.mk (g:=1) (mm:=false) aw rfl rfl rfl⟩
 ·rintro n τ β ε π hK hKB hKE ⟨i,hn,hi,h8,g,mm,hg0,h7,f10⟩;have hcl:(cE (a.take i) v k).length<=i:=by
   unfold cE;rw[az];exact ax (List.length_filter_le _ _) ar
  rw[az]at h7;have h7':=h7;have k0:τ 0 = .i (iM a):=(hK 0 rfl).trans rfl;have k1:τ 1 = .i (iN v):=(hK 1 rfl).trans rfl;have k2:τ 2 = .i (iN k):=(hK 2 rfl).trans rfl;by_cases hlt:i<a.length
  ·have dA:decide ((i:Int)<(a.length:Int))=true:=aF aw;have hg:a[i]?=some a[i]:=by simp[hlt]
   obtain rfl|rfl|rfl|rfl:v=0\/v=1\/v=2\/v=3:=aw
   ·have k1':τ 1 = .i (iN 0):=k1;simp -dsimp only[go_sem,h8,k0,k1',k2,dA,az,Int.reduceToNat,Int.reduceLE,aC];refine aQ hg ?_;simp -dsimp only[go_sem,h8,k0,k1',k2,dA,Int.reduceToNat,Int.reduceLE,aC];by_cases hc:a[i].1.at 0=k
    ·have ec:decide (a[i].1.a=(k:Int))=true:=aF hc;simp -dsimp only[go_sem,ec,h7',f10,hg0,k1',h8,Int.reduceToNat,Int.reduceLE,aC]
     repeat(refine And.intro aw ?_)
     refine bc (a.length-(i+1)) 7 33 10 aw rfl rfl aw aH ⟨(aA hK),(aA hKB),(aA hKE),i+1,rfl,aw,rfl,?_⟩;refine Own.mk2 (Nat.succ_pos _) (by simp -dsimp only[go_sem];rfl) (by simp -dsimp only[go_sem];rfl) au ?_;rw[aq hlt,eF,if_pos hc,List.map_append];rfl
    ·have ec:decide (a[i].1.a=(k:Int))=false:=aG hc;simp -dsimp only[go_sem,ec,h8,Int.reduceToNat,Int.reduceLE,aC]
     repeat(refine And.intro aw ?_)
     refine again (a.length-(i+1)) aw ⟨(aA hK),(aA hKB),hKE,i+1,rfl,aw,rfl,?_⟩;rw[aq hlt,eF,if_neg hc,List.append_nil];exact Own.mk hg0 (by simp -dsimp only[go_sem];exact h7) rfl f10
   ·have k1':τ 1 = .i (iN 1):=k1;simp -dsimp only[go_sem,h8,k0,k1',k2,dA,az,Int.reduceToNat,Int.reduceLE,aC];refine aQ hg ?_;simp -dsimp only[go_sem,h8,k0,k1',k2,dA,Int.reduceToNat,Int.reduceLE,aC];by_cases hc:a[i].1.at 1=k
    ·have ec:decide (a[i].1.b=(k:Int))=true:=aF hc;simp -dsimp only[go_sem,ec,h7',f10,hg0,k1',h8,Int.reduceToNat,Int.reduceLE,aC]
     repeat(refine And.intro aw ?_)
     refine bc (a.length-(i+1)) 7 33 10 aw rfl rfl aw aH ⟨(aA hK),(aA hKB),(aA hKE),i+1,rfl,aw,rfl,?_⟩;refine Own.mk2 (Nat.succ_pos _) (by simp -dsimp only[go_sem];rfl) (by simp -dsimp only[go_sem];rfl) au ?_;rw[aq hlt,eF,if_pos hc,List.map_append];rfl
    ·have ec:decide (a[i].1.b=(k:Int))=false:=aG hc;simp -dsimp only[go_sem,ec,h8,Int.reduceToNat,Int.reduceLE,aC]
     repeat(refine And.intro aw ?_)
     refine again (a.length-(i+1)) aw ⟨(aA hK),(aA hKB),hKE,i+1,rfl,aw,rfl,?_⟩;rw[aq hlt,eF,if_neg hc,List.append_nil];exact Own.mk hg0 (by simp -dsimp only[go_sem];exact h7) rfl f10
   ·have k1':τ 1 = .i (iN 2):=k1;simp -dsimp only[go_sem,h8,k0,k1',k2,dA,az,Int.reduceToNat,Int.reduceLE,aC];refine aQ hg ?_;simp -dsimp only[go_sem,h8,k0,k1',k2,dA,Int.reduceToNat,Int.reduceLE,aC];by_cases hc:a[i].1.at 2=k
    ·have ec:decide (a[i].1.c=(k:Int))=true:=aF hc;simp -dsimp only[go_sem,ec,h7',f10,hg0,k1',h8,Int.reduceToNat,Int.reduceLE,aC]
     repeat(refine And.intro aw ?_)
     refine bc (a.length-(i+1)) 7 33 10 aw rfl rfl aw aH ⟨(aA hK),(aA hKB),(aA hKE),i+1,rfl,aw,rfl,?_⟩;refine Own.mk2 (Nat.succ_pos _) (by simp -dsimp only[go_sem];rfl) (by simp -dsimp only[go_sem];rfl) au ?_;rw[aq hlt,eF,if_pos hc,List.map_append];rfl
    ·have ec:decide (a[i].1.c=(k:Int))=false:=aG hc;simp -dsimp only[go_sem,ec,h8,Int.reduceToNat,Int.reduceLE,aC]
     repeat(refine And.intro aw ?_)
     refine again (a.length-(i+1)) aw ⟨(aA hK),(aA hKB),hKE,i+1,rfl,aw,rfl,?_⟩;rw[aq hlt,eF,if_neg hc,List.append_nil];exact Own.mk hg0 (by simp -dsimp only[go_sem];exact h7) rfl f10
   ·have k1':τ 1 = .i (iN 3):=k1;simp -dsimp only[go_sem,h8,k0,k1',k2,dA,az,Int.reduceToNat,Int.reduceLE,aC];refine aQ hg ?_;simp -dsimp only[go_sem,h8,k0,k1',k2,dA,Int.reduceToNat,Int.reduceLE,aC];by_cases hc:a[i].1.at 3=k
    ·have ec:decide (a[i].1.d=(k:Int))=true:=aF hc;simp -dsimp only[go_sem,ec,h7',f10,hg0,k1',h8,Int.reduceToNat,Int.reduceLE,aC]
     repeat(refine And.intro aw ?_)
     refine bc (a.length-(i+1)) 7 33 10 aw rfl rfl aw aH ⟨(aA hK),(aA hKB),(aA hKE),i+1,rfl,aw,rfl,?_⟩;refine Own.mk2 (Nat.succ_pos _) (by simp -dsimp only[go_sem];rfl) (by simp -dsimp only[go_sem];rfl) au ?_;rw[aq hlt,eF,if_pos hc,List.map_append];rfl
    ·have ec:decide (a[i].1.d=(k:Int))=false:=aG hc;simp -dsimp only[go_sem,ec,h8,Int.reduceToNat,Int.reduceLE,aC]
     repeat(refine And.intro aw ?_)
     refine again (a.length-(i+1)) aw ⟨(aA hK),(aA hKB),hKE,i+1,rfl,aw,rfl,?_⟩;rw[aq hlt,eF,if_neg hc,List.append_nil];exact Own.mk hg0 (by simp -dsimp only[go_sem];exact h7) rfl f10
  ·have dA:decide ((i:Int)<(a.length:Int))=false:=aG aw;obtain rfl:i=a.length:=aw;rw[List.take_length]at h7 f10;simp -dsimp only[go_sem,h8,k0,dA,az];exact⟨(aA hK),hKB,hKE,Own.mk hg0 h7 au f10⟩
 ·rintro e τ β ε π hK hKB hKE ⟨rfl,g,mm,hg,h5,h9⟩;rw[az]at h5;refine⟨_,bA.refl _,?_⟩;simp -dsimp only[go_sem,h5,h9,hg]
end Go.AM
namespace Go.AM
open Alg
open Go.Proofs
def Ex.zsub (e f:Ex) (i:Nat):Ex:=⟨if 0<i then e.a-f.a else 0,if 1<i then e.b-f.b else 0,if 2<i then e.c-f.c else 0,if 3<i then e.d-f.d else 0⟩
set_option maxHeartbeats 1000000 in
theorem uK {p q:PQ} {h k:Nat} (hp:am h p) (hq:am k q) (hq0:q≠0) (hb:h+(aa p+2)*(k+1)+k<=137438953000) (sp:aa p<=524288) (sq:aa q<=524288):Fn Tryz.prog 158 [iUp p,iUp q] (uo p q):=by
 obtain⟨Q,hQ⟩:=fU hq0;have lQ:(U q).length=Q.length+1:=by rw[hQ];rfl
 have cQ:(U q)[0]?=some (⟨((aa q-1:Nat):Int),0,0,0⟩,lc q):=by rw[hQ];rfl
 have hq1:=aV hq0;have hlq:=bP hq0;refine aJ (fn:=Tryz.f158) ?_;have e1:decide (((U q).length:Int)=0)=false:=by rw[lQ];exact aG aw
 simp -dsimp only[go_sem,e1,az];refine cf 6 14 8 (rs:=[]) rfl au ?_;refine br [(4,9),(16,66)] [(8,8)] [(61,61),(14,14)] (fun n τ β ε=>∃(r s:PQ) (L:List Tm) (j:Nat),n=aa r/\p=s*q+r/\Cn L/\toP L=s/\(∀ t∈L,(aa r:Int)-aa q<t.1.a)/\L.length+aa r<=aa p/\am (h+j*(k+1)) r/\j+aa r<=aa p /\
   τ 7 = .i (iUp r)/\Own 8 (L.map eT) 6 14 τ ε)
  (fun e τ β ε=>(e = .exit 0/\∃(s:PQ) (L:List Tm),p=s*q/\Cn L/\toP L=s/\L.length<=aa p/\Own 8 (L.map eT) 6 14 τ ε) \/
   (e = .ret/\uo p q=[iM [],iB false]/\τ 4 = .fl []/\τ 5 = .i (.c (.v (.bool false))))) (aa p) ?_ ?_ ?_
 ·exact⟨p,0,[],0,rfl,by rw[zero_mul,zero_add],⟨List.Pairwise.nil,au,by intro t ht;simp at ht⟩,rfl,au,au,by simpa using hp,aw,rfl,Own.mk (g:=1) (mm:=false) aw rfl rfl rfl⟩
 ·rintro n τ β ε π hK hKB hKE ⟨r,s,L,j,hn,he,hL,hLs,hlt,hll,hr,hj,h0,g,mm,hg,h6,hrow⟩;have h6':τ 6 = .sl 14 g L.length:=by rw[h6,az]
  have k1:τ 1 = .i (iUp q):=(hK 1 rfl).trans rfl;by_cases hr0:r=0
  ·have hA:¬ (0:Int)<((U r).length:Int):=by rw[hr0,cp];simp
   simp -dsimp only[go_sem,h0,hA,az];exact⟨(aA hK),hKB,hKE,s,L,by rw[he,hr0,add_zero],hL,hLs,aw,Own.mk hg h6' au hrow⟩
  ·obtain⟨R,hR⟩:=fU hr0;have lR:(U r).length=R.length+1:=by rw[hR];rfl
   have cR:(U r)[0]?=some (⟨((aa r-1:Nat):Int),0,0,0⟩,lc r):=by rw[hR];rfl
   have hA:decide ((0:Int)<((U r).length:Int))=true:=aF (by rw[lR];omega);have hr1:=aV hr0;have hsr:aa r<=aa p:=aw;simp -dsimp only[go_sem,h0,hA,az,Int.reduceToNat,Int.reduceLE,aC];refine br [(9,9),(20,39)] [(8,8)] [] (fun n τ' β' ε'=>∃ i:Nat,n=4-i/\i<=4/\τ' 9 = .i (iN i)/\β' 8=⟨(β 8).gen+1,(Ex.zsub ⟨((aa r-1:Nat):Int),0,0,0⟩ ⟨((aa q-1:Nat):Int),0,0,0⟩ i).cs++[.v (.bool false),.lst [],.v (.bool false),.lst []]⟩)
    (fun e τ' β' ε'=>e = .exit 2/\β' 8=⟨(β 8).gen+1,(Ex.sub ⟨((aa r-1:Nat):Int),0,0,0⟩ ⟨((aa q-1:Nat):Int),0,0,0⟩).cs++[.v (.bool false),.lst [],.v (.bool false),.lst []]⟩) 4 ?_ ?_ ?_
   ·exact⟨0,aw,aw,rfl,rfl⟩
   ·rintro n2 τ2 β2 ε2 π2 hK2 hKB2 hKE2 ⟨i,hn2,hi,h18,b8⟩;have q8:τ2 8 = .bp 8 ((β 8).gen+1) 0:=(hK2 8 rfl).trans rfl;have q1:τ2 1 = .i (iUp q):=(hK2 1 rfl).trans k1;have q7:τ2 7 = .i (iUp r):=(hK2 7 rfl).trans h0;obtain rfl|rfl|rfl|rfl|rfl:i=0\/i=1\/i=2\/i=3\/i=4:=aw
    ·have h18':τ2 9 = .i (iN 0):=h18;simp -dsimp only[go_sem,h18',Int.reduceLT,decide_true];refine ap 16 [] false true ?_;simp -dsimp only[go_sem,h18',q7,q1,q8,b8,Int.reduceToNat,Int.reduceLE,aC,Int.reduceAdd,Ex.zsub,Nat.not_lt_zero];refine aQ cR ?_;simp -dsimp only[go_sem,h18',q7,q1,q8,b8,Int.reduceToNat,Int.reduceLE,aC,Int.reduceAdd,Ex.zsub,Nat.not_lt_zero];refine aQ cQ ?_;simp -dsimp only[go_sem,h18',q7,q1,q8,b8,Int.reduceToNat,Int.reduceLE,aC,Int.reduceAdd,Ex.zsub,Nat.not_lt_zero]
     repeat(refine And.intro aw ?_)
     refine again (4-1) aw ⟨(aA hK2),(aA hKB2),hKE2,1,rfl,aw,rfl,?_⟩;simp -dsimp only[go_sem,Ex.zsub,Nat.not_lt_zero]
    ·have h18':τ2 9 = .i (iN 1):=h18;simp -dsimp only[go_sem,h18',Int.reduceLT,decide_true];refine ap 16 [] false true ?_;simp -dsimp only[go_sem,h18',q7,q1,q8,b8,Int.reduceToNat,Int.reduceLE,aC,Int.reduceAdd,Ex.zsub,Nat.not_lt_zero];refine aQ cR ?_;simp -dsimp only[go_sem,h18',q7,q1,q8,b8,Int.reduceToNat,Int.reduceLE,aC,Int.reduceAdd,Ex.zsub,Nat.not_lt_zero];refine aQ cQ ?_;simp -dsimp only[go_sem,h18',q7,q1,q8,b8,Int.reduceToNat,Int.reduceLE,aC,Int.reduceAdd,Ex.zsub,Nat.not_lt_zero]
     repeat(refine And.intro aw ?_)
     refine again (4-2) aw ⟨(aA hK2),(aA hKB2),hKE2,2,rfl,aw,rfl,?_⟩;simp -dsimp only[go_sem,Ex.zsub,Nat.not_lt_zero]
    ·have h18':τ2 9 = .i (iN 2):=h18;simp -dsimp only[go_sem,h18',Int.reduceLT,decide_true];refine ap 16 [] false true ?_;simp -dsimp only[go_sem,h18',q7,q1,q8,b8,Int.reduceToNat,Int.reduceLE,aC,Int.reduceAdd,Ex.zsub,Nat.not_lt_zero];refine aQ cR ?_;simp -dsimp only[go_sem,h18',q7,q1,q8,b8,Int.reduceToNat,Int.reduceLE,aC,Int.reduceAdd,Ex.zsub,Nat.not_lt_zero];refine aQ cQ ?_;simp -dsimp only[go_sem,h18',q7,q1,q8,b8,Int.reduceToNat,Int.reduceLE,aC,Int.reduceAdd,Ex.zsub,Nat.not_lt_zero]
     repeat(refine And.intro aw ?_)
     refine again (4-3) aw ⟨(aA hK2),(aA hKB2),hKE2,3,rfl,aw,rfl,?_⟩;simp -dsimp only[go_sem,Ex.zsub,Nat.not_lt_zero]
    ·have h18':τ2 9 = .i (iN 3):=h18;simp -dsimp only[go_sem,h18',Int.reduceLT,decide_true];refine ap 16 [] false true ?_;simp -dsimp only[go_sem,h18',q7,q1,q8,b8,Int.reduceToNat,Int.reduceLE,aC,Int.reduceAdd,Ex.zsub,Nat.not_lt_zero];refine aQ cR ?_;simp -dsimp only[go_sem,h18',q7,q1,q8,b8,Int.reduceToNat,Int.reduceLE,aC,Int.reduceAdd,Ex.zsub,Nat.not_lt_zero];refine aQ cQ ?_;simp -dsimp only[go_sem,h18',q7,q1,q8,b8,Int.reduceToNat,Int.reduceLE,aC,Int.reduceAdd,Ex.zsub,Nat.not_lt_zero]
     repeat(refine And.intro aw ?_)
     refine again (4-4) aw ⟨(aA hK2),(aA hKB2),hKE2,4,rfl,aw,rfl,?_⟩;simp -dsimp only[go_sem,Ex.zsub,Nat.not_lt_zero]
    ·have h18':τ2 9 = .i (iN 4):=h18;simp -dsimp only[go_sem,h18',Int.reduceLT,decide_false];exact⟨(aA hK2),hKB2,hKE2,b8⟩
   ·rintro e τ2 β2 ε2 π2 hK2 hKB2 hKE2 ⟨rfl,b8⟩;refine⟨_,bA.refl _,?_⟩;have r8:τ2 8 = .bp 8 ((β 8).gen+1) 0:=(hK2 8 rfl).trans rfl;have r1:τ2 1 = .i (iUp q):=(hK2 1 rfl).trans k1;have r7:τ2 7 = .i (iUp r):=(hK2 7 rfl).trans h0;have r6:τ2 6 = .sl 14 g L.length:=(hK2 6 rfl).trans h6';have rr:ε2 14=⟨g,8,L.map eT,mm,true⟩:=(hKE2 14 rfl).trans hrow;have kO:=Kp.step2 hK hK2 (by intro n;simp[inR]<;>omega) (aA hK);have kB:=Kp.step2 hKB hKB2 (by intro n;simp[inR]<;>omega) (aA hKB);have kE:=Kp.step2 hKE hKE2 (by intro n;simp[inR]) hKE;have hjk:j*(k+1)+(k+1)<=(aa p+2)*(k+1):=by rw[<-Nat.succ_mul];exact Nat.mul_le_mul_right _ aw
    have hqr:QB 17179869184 (lc r):=ia (hr.coef _).1 (hr.coef _).2 aw;have hqq:QB 17179869184 (lc q):=ia (hq.coef _).1 (hq.coef _).2 aw;by_cases hc:aa q<=aa r
    ·have hX:Ex.sub ⟨((aa r-1:Nat):Int),0,0,0⟩ ⟨((aa q-1:Nat):Int),0,0,0⟩=⟨((aa r-aa q:Nat):Int),0,0,0⟩:=by
      unfold Ex.sub;simp only[Ex.mk.injEq];omega
     rw[hX]at b8;have eN:decide (cP ⟨((aa r-aa q:Nat):Int),0,0,0⟩)=true:=aF (by unfold cP;dsimp only;omega);simp -dsimp only[go_sem,r8,b8,r1,r7,Int.reduceToNat,Int.reduceLE,aC];refine aO (args':=[iE ⟨((aa r-aa q:Nat):Int),0,0,0⟩]) rfl (gC _) ?_;simp -dsimp only[go_sem,eN];refine bB av 11 13 [] true [.tmp 57] none av av av av aE ?_;simp -dsimp only[go_sem,r8,b8,r1,r7,Int.reduceToNat,Int.reduceLE,aC];refine aQ cR ?_;simp -dsimp only[go_sem,r8,b8,r1,r7,Int.reduceToNat,Int.reduceLE,aC];refine aQ cQ ?_;simp -dsimp only[go_sem,r8,b8,r1,r7,Int.reduceToNat,Int.reduceLE,aC];refine aO (args':=[iQ (lc r),iQ (lc q)]) rfl (An _ _ hlq hqr hqq) ?_;simp -dsimp only[go_sem,r8,b8,r1,r7,Int.reduceToNat,Int.reduceLE,aC];have hcc:lc r/lc q≠0:=by
      intro e0;refine bP hr0 ?_;have h9:(lc r:Rat)/lc q*lc q=lc r:=Rat.div_mul_cancel hlq;rw[e0]at h9;rw[<-h9];exact Rat.zero_mul _
     obtain⟨b1,b2⟩:=jy hlq (hr.coef (aa r-1)) (hq.coef (aa q-1));have hmb:am (h+j*(k+1)+k) (mon (aa r-aa q) (lc r/lc q)):=am.mon _ b1 b2;have hsm:=mF (aa r-aa q) (a:=lc r/lc q) hcc;have hsp:=bg q (mon (aa r-aa q) (lc r/lc q));simp -dsimp only[go_sem,r6,rr,hg,r7,r1,az]
     repeat(refine And.intro aw ?_)
     simp -dsimp only[go_sem,r8,r1,r7];refine aO (args':=[iUp q,.g (eT (⟨((aa r-aa q:Nat):Int),0,0,0⟩,lc r/lc q))]) rfl (qN _ _ (by have:=dc q;omega) (HB.qb hq aw) (ia b1 b2 aw) (Ct aw aw) (by unfold Ex.lt;dsimp only;omega)) ?_;rw[xG q ⟨au,rfl,rfl,rfl⟩];simp -dsimp only[go_sem,r7];refine aO (args':=[iUp r,iUp (q*mon (aa r-aa q) (lc r/lc q))]) au (Ae hr (hq.mul hmb) aw aw aw aw) ?_;simp -dsimp only[go_sem];have hlow:=vQ hr0 hq0 hc;refine bc (aa (r-q*mon (aa r-aa q) (lc r/lc q))) 6 61 14 aw rfl rfl aw aH
      ⟨(aA kO),(aA kB),(aA kE),_,s+mon (aa r-aa q) (lc r/lc q),L++[(⟨((aa r-aa q:Nat):Int),0,0,0⟩,lc r/lc q)],j+1,rfl,?_,DL hL hcc (fun t ht=>by have:=hlt t ht;omega),?_,?_,ar,?_,aw,rfl,?_⟩
     ·rw[he,add_mul];exact ring [s*q,mon (aa r-aa q) (lc r/lc q),q,r]
     ·rw[ot,hLs,a8,cF,add_zero];simp
     ·intro t ht;rcases List.mem_append.1 ht with ht|ht
      ·have:=hlt t ht;omega
      ·simp at ht;subst ht;simp only;omega
     ·have:=hr.divstep hq hq0 (aa r-aa q);exact this.mono (by rw[Nat.succ_mul];omega)
     ·exact Own.mk2 (Nat.succ_pos _) (by simp -dsimp only[go_sem];rfl) (by simp -dsimp only[go_sem];rfl) au (by simp;rfl)
    ·have hX:¬ cP (Ex.sub ⟨((aa r-1:Nat):Int),0,0,0⟩ ⟨((aa q-1:Nat):Int),0,0,0⟩):=by
      unfold Ex.sub cP;dsimp only;omega
     have eN:decide (cP (Ex.sub ⟨((aa r-1:Nat):Int),0,0,0⟩ ⟨((aa q-1:Nat):Int),0,0,0⟩))=false:=aG hX;simp -dsimp only[go_sem,r8,b8,r1,r7,Int.reduceToNat,Int.reduceLE,aC];refine aO (args':=[iE (Ex.sub ⟨((aa r-1:Nat):Int),0,0,0⟩ ⟨((aa q-1:Nat):Int),0,0,0⟩)]) rfl (gC _) ?_;simp -dsimp only[go_sem,eN];exact⟨(aA kO),kB,kE,zH he hr0 aw⟩
 ·rintro e τ β ε π hK hKB hKE h;refine⟨_,bA.refl _,?_⟩;rcases h with⟨rfl,s,L,he,hL,hLs,hll,g,mm,hg,h6,hrow⟩|⟨rfl,h1,h2,h3⟩
  ·rw[az]at h6;simp -dsimp only[go_sem,h6,hrow,hg];rw[gP hq0 he,ky s,<-vi hL hLs]
  ·simp -dsimp only[go_sem,h2,h3];rw[h1];rfl
theorem gg (p:PQ) (sp:aa p<=1048576):Fn Tryz.prog 44 [iUp p,iN 0] [iN ((aa p:Int)-1)]:=by
 have:=uL (U p) 0 aw (by have:=dc p;omega);rwa [qH]at this
theorem oN (p:PQ) (k:Nat) (sp:aa p<=1048576):Fn Tryz.prog 172 [iUp p,iN 0,iN k] [iUp (an (p.c k))]:=by
 have:=Cz (U p) 0 k aw (by have:=dc p;omega);rwa [zO]at this
theorem Ga (p:PQ) (hp:p≠0) (sp:aa p<=1048576):Fn Tryz.prog 171 [iUp p,iN 0] [iUp (an (lc p))]:=by
 have h0:=aV hp;refine aJ (fn:=Tryz.f171) ?_;simp -dsimp only[go_sem];refine aK (gg p sp) ?_;simp -dsimp only[go_sem];refine aO (args':=[iUp p,iN 0,iN ((aa p-1:Nat):Int)]) (by rw[show((aa p-1:Nat):Int)=(aa p:Int)-1 by omega]) (oN p (aa p-1) sp) ?_;simp -dsimp only[go_sem];rfl
theorem U_X:U (mon 1 1)=[(e0.to 0 1,1)]:=by rw[Ac 1 aH];rfl
theorem p9 (n:Nat):am 0 (mon n 1):=am.mon n aH aH
theorem rQ (n:Nat):aa (mon n (1:Rat))=n+1:=mF n aH
theorem nl:gt ((1:Int):Rat)=U (mon 0 1):=by
 rw[Ac 0 aH];rfl
theorem Jm (n:Nat) (hn:n<=524286):Fn Tryz.prog 173 [iUp (mon 1 1),iN n] [iUp (mon n 1)]:=by
 refine aJ (fn:=Tryz.f173) ?_;have e1:decide ((n:Int)<0)=false:=aG aw;simp -dsimp only[go_sem,e1];refine aK (F5 1 aH) ?_;simp -dsimp only[go_sem];refine be [(5,6),(11,18)] [] [] (fun m τ β ε=>∃ i:Nat,m=n-i/\i<=n/\τ 6 = .i (iN i)/\τ 5 = .i (iUp (mon i 1)))
  (fun e τ β ε=>e = .exit 0/\τ 5 = .i (iUp (mon n 1))) n ?_ ?_ ?_
 ·exact⟨0,aw,aw,rfl,by simp -dsimp only[go_sem];rw[nl]⟩
 ·rintro m τ β ε π hK hKB hKE ⟨i,hm,hi,h6,h5⟩;have k0:τ 0 = .i (iUp (mon 1 1)):=(hK 0 rfl).trans rfl;have k1:τ 1 = .i (iN n):=(hK 1 rfl).trans rfl;by_cases hlt:i<n
  ·have dA:decide ((i:Int)<(n:Int))=true:=aF aw;simp -dsimp only[go_sem,h6,h5,k0,k1,dA];refine aK (eA (p9 i) (p9 1) aw (by rw[rQ];omega) (by rw[rQ];omega)) ?_;rw[dS];simp -dsimp only[go_sem,h6]
   repeat(refine And.intro aw ?_)
   refine again (n-(i+1)) aw ⟨(aA hK),hKB,hKE,i+1,rfl,aw,rfl,?_⟩;simp -dsimp only[go_sem];rw[show(1:Rat)*1=1 from Rat.mul_one 1]
  ·have dA:decide ((i:Int)<(n:Int))=false:=aG aw;obtain rfl:i=n:=aw;simp -dsimp only[go_sem,h6,k1,dA];exact⟨(aA hK),hKB,hKE,h5⟩
 ·rintro e τ β ε π hK hKB hKE ⟨rfl,h5⟩;simp -dsimp only[go_sem,h5]
theorem rE {p q:PQ} {h k:Nat} (hp:am h p) (hq:am k q) (hq0:q≠0) (hb:h+(aa p+2)*(k+1)+2*k<=68719476000) (sp:aa p<=262144) (sq:aa q<=262144):Fn Tryz.prog 135 [iUp p,iUp q,iN 0] [iUp (psr q (aa p) p),iN 0]:=by
 obtain⟨Q,hQ⟩:=fU hq0;have lQ:(U q).length=Q.length+1:=by rw[hQ];rfl
 have e1:decide (((U q).length:Int)=0)=false:=by rw[lQ];exact aG aw
 have hq1:=aV hq0;refine aJ (fn:=Tryz.f135) ?_;simp -dsimp only[go_sem,e1,az];refine aK (gg q aw) ?_;simp -dsimp only[go_sem];refine aK (Ga q hq0 aw) ?_;simp -dsimp only[go_sem];refine aK (gg p aw) ?_;simp -dsimp only[go_sem];refine be [(10,12),(27,49)] [] [] (fun n τ β ε=>∃(t:Nat) (r:PQ) (j:Nat),n=t/\aa r<=t/\psr q t r=psr q (aa p) p/\t<=aa p/\j+t<=aa p/\am (h+j*(k+1)) r/\τ 11 = .i (iN ((t:Int)-1))/\τ 10 = .i (iUp r))
  (fun e τ β ε=>e = .exit 0/\τ 10 = .i (iUp (psr q (aa p) p))) (aa p) ?_ ?_ ?_
 ·exact⟨aa p,p,0,rfl,ay _,rfl,ay _,aw,by simpa using hp,rfl,rfl⟩
 ·rintro n τ β ε π hK hKB hKE ⟨t,r,j,hn,hs,hps,htp,hjt,hr,h11,h10⟩;have k1:τ 1 = .i (iUp q):=(hK 1 rfl).trans rfl;have k2:τ 2 = .i (iN 0):=(hK 2 rfl).trans rfl;have k8:τ 8 = .i (iN ((aa q:Int)-1)):=(hK 8 rfl).trans rfl;have k9:τ 9 = .i (iUp (an (lc q))):=(hK 9 rfl).trans rfl;by_cases hlt:aa q<=t
  ·obtain⟨t',rfl⟩:∃ t',t=t'+1:=⟨t-1,aw⟩;have ei:((t'+1:Nat):Int)-1=(t':Int):=aw;have dA:decide (((aa q:Int)-1)<=(t':Int))=true:=aF aw;have ek:(t':Int)-((aa q:Int)-1)=((t'+1-aa q:Nat):Int):=aw;rw[ei]at h11;have hjk:j*(k+1)+(k+1)<=(aa p+2)*(k+1):=by rw[<-Nat.succ_mul];exact Nat.mul_le_mul_right _ aw
   have c1:=it (r.c t');have c2:=it (lc q);have c3:=bg (an (r.c t')) (mon (t'+1-aa q) 1);have c4:=bg (an (lc q)) r;have c5:=bg (an (r.c t')*mon (t'+1-aa q) 1) q;rw[rQ]at c3;simp -dsimp only[go_sem,h10,h11,k1,k2,k8,k9,dA];refine aK (oN r t' aw) ?_;simp -dsimp only[go_sem,h10,h11,k1,k2,k8,k9];refine ao (iA 0 aw) rfl ?_;simp -dsimp only[go_sem,h10,h11,k1,k2,k8,k9,ek]
   repeat(refine And.intro aw ?_)
   refine aO (args':=[iUp (mon 1 1),iN ((t'+1-aa q:Nat):Int)]) (by rw[<-U_X]) (Jm (t'+1-aa q) aw) ?_;simp -dsimp only[go_sem];refine aK (eA (ms hr t') (p9 _) aw aw (by rw[rQ];omega)) ?_;simp -dsimp only[go_sem,h10,h11,k1,k2,k8,k9];refine aK (eA (ms hq (aa q-1)) hr aw (by have:=it (q.c (aa q-1));omega) aw) ?_;simp -dsimp only[go_sem,h10,h11,k1,k2,k8,k9];refine aK (eA ((ms hr t').mul (p9 _)) hq aw aw aw) ?_;simp -dsimp only[go_sem,h10,h11,k1,k2,k8,k9];refine aK (Ae ((ms hq (aa q-1)).mul hr) (((ms hr t').mul (p9 _)).mul hq) aw aw (by show aa (an (lc q)*r)<=_;omega) aw) ?_;simp -dsimp only[go_sem,h11]
   repeat(refine And.intro aw ?_)
   refine again t' aw ⟨(aA hK),hKB,hKE,t',pst q t' r,j+1,rfl,Bi hq0 hs hlt,?_,aw,aw,(hr.pstep hq _ _ _).mono (by rw[Nat.succ_mul];omega),rfl,?_⟩
   ·rw[<-hps];simp only[psr];rw[if_pos hlt]
   ·simp -dsimp only[go_sem];rw[pst,<-du (r.c t'),dS,Nat.zero_add,show r.c t'*1=r.c t' from Rat.mul_one _]
  ·have dA:decide (((aa q:Int)-1)<=((t:Int)-1))=false:=aG aw;have hpr:psr q t r=r:=by
    cases t with
    | zero=>rfl
    | succ t=>simp only[psr];rw[if_neg hlt]
   simp -dsimp only[go_sem,h10,h11,k8,dA];rw[hpr]at hps;exact⟨(aA hK),hKB,hKE,by rw[<-hps]⟩
 ·rintro e τ β ε π hK hKB hKE ⟨rfl,h10⟩;simp -dsimp only[go_sem,h10]
end Go.AM
namespace Go.AM
open Alg
open Go.Proofs
open Classical
theorem hzU (x:PQ):decide (((U x).length:Int)=0)=decide (x=0):=by
 rw[decide_eq_decide];constructor
 ·intro h;exact nq.1 (List.eq_nil_of_length_eq_zero aw)
 ·rintro rfl;rw[cp];rfl
theorem cC {p:PQ} {h:Nat} (hp:am h p) (hb:h<=137438953000) (sp:aa p<=1048576):Fn Tryz.prog 129 [iUp p] [iUp (ag p)]:=by
 refine aJ (fn:=Tryz.f129) ?_;by_cases hp0:p=0
 ·subst hp0;have e1:decide (((U 0).length:Int)=0)=true:=by rw[cp];rfl
  simp -dsimp only[go_sem,e1,az];rw[fL,ky,cp];rfl
 ·obtain⟨R,hR⟩:=fU hp0;have lR:(U p).length=R.length+1:=by rw[hR];rfl
  have cR:(U p)[0]?=some (⟨((aa p-1:Nat):Int),0,0,0⟩,lc p):=by rw[hR];rfl
  have e1:decide (((U p).length:Int)=0)=false:=by rw[lR];exact aG aw
  have hqq:QB 17179869184 (lc p):=ia (hp.coef _).1 (hp.coef _).2 aw;have hl:=bP hp0;obtain⟨b1,b2⟩:=jy (x:=1) (h:=0) hl ⟨aH,aH⟩ (hp.coef (aa p-1));simp -dsimp only[go_sem,e1,az];refine ap 9 [] false true ?_;simp -dsimp only[go_sem];refine aK (dJ 1 aH) ?_;simp -dsimp only[go_sem,Int.reduceToNat,Int.reduceLE,aC];refine aQ cR ?_;simp -dsimp only[go_sem,Int.reduceToNat,Int.reduceLE,aC];refine aO (args':=[iQ 1,iQ (lc p)]) rfl (wt 1 _ hl nw hqq) ?_;simp -dsimp only[go_sem];refine ao (l6 hp aw sp (ia b1 b2 aw)) rfl ?_;simp -dsimp only[go_sem,yW]
theorem Jo:Fn Tryz.prog 131 [] [iUp 1]:=by
 refine aJ (fn:=Tryz.f131) ?_;simp -dsimp only[go_sem];refine aK (dJ 1 aH) ?_;simp -dsimp only[go_sem];refine aO (args':=[iQ ((1:Int):Rat)]) rfl (nZ _ (oQ (n:=1) aH _ aH)) ?_;simp -dsimp only[go_sem];rw[nl,du];rfl
theorem DW {p q:PQ} (hp:p≠0) (hq:q≠0) (sp:aa p<=1048576) (sq:aa q<=1048576):Fn Tryz.prog 130 [iUp p,iUp q] [iN (if aa p=1/\aa q=1 then -1 else 0)]:=by
 have dp:∀ v:Nat,v<4->Fn Tryz.prog 44 [iUp p,iN v] [iN (if v=0 then(aa p:Int)-1 else 0)]:=fun v hv=>by
  have:=uL (U p) v hv (by have:=dc p;omega);by_cases h:v=0
  ·subst h;rw[qH]at this;exact this
  ·rw[sg p hp v aw]at this;rwa [if_neg h]
 have dq:∀ v:Nat,v<4->Fn Tryz.prog 44 [iUp q,iN v] [iN (if v=0 then(aa q:Int)-1 else 0)]:=fun v hv=>by
  have:=uL (U q) v hv (by have:=dc q;omega);by_cases h:v=0
  ·subst h;rw[qH]at this;exact this
  ·rw[sg q hq v aw]at this;rwa [if_neg h]
 have hp1:=aV hp;have hq1:=aV hq;refine aJ (fn:=Tryz.f130) ?_;simp -dsimp only[go_sem];refine be [(5,21)] [] [] (fun n τ β ε=>∃ v:Int,n=(v+1).toNat /\ -1<=v/\v<=3/\(v<0->aa p=1/\aa q=1)/\τ 5 = .i (iN v))
  (fun e τ β ε=>e = .exit 0/\τ 5 = .i (iN (if aa p=1/\aa q=1 then -1 else 0))) 4 ?_ ?_ ?_
 ·exact⟨3,aw,aw,aw,aw,rfl⟩
 ·rintro n τ β ε π hK hKB hKE ⟨v,hn,hv0,hv,hz,h5⟩;have k0:τ 0 = .i (iUp p):=(hK 0 rfl).trans rfl;have k1:τ 1 = .i (iUp q):=(hK 1 rfl).trans rfl;by_cases hv1:v = -1
  ·subst hv1;simp -dsimp only[go_sem,h5,Int.reduceLE,decide_false];refine⟨(aA hK),hKB,hKE,?_⟩;rw[if_pos (hz aw)]
  ·have dA:decide ((0:Int)<=v)=true:=aF aw;obtain⟨u,rfl⟩:∃ u:Nat,v=u:=⟨v.toNat,aw⟩;simp -dsimp only[go_sem,h5,k0,k1,dA];refine aK (dp u aw) ?_;by_cases hu:u=0
   ·rw[if_pos hu];by_cases hs:aa p=1
    ·have e1:decide (((aa p:Int)-1)<1)=true:=aF aw;simp -dsimp only[go_sem,e1,h5,k1];refine aK (dq u aw) ?_;rw[if_pos hu];by_cases ht:aa q=1
     ·have e2:decide (((aa q:Int)-1)<1)=true:=aF aw;simp -dsimp only[go_sem,e2,h5]
      repeat(refine And.intro aw ?_)
      refine again 0 aw ⟨(aA hK),hKB,hKE,-1,aw,aw,aw,fun _=>⟨hs,ht⟩,?_⟩;simp -dsimp only[go_sem];rw[hu];rfl
     ·have e2:decide (((aa q:Int)-1)<1)=false:=aG aw;simp -dsimp only[go_sem,e2];refine⟨(aA hK),hKB,hKE,?_⟩;rw[if_neg (fun h=>ht h.2),h5,hu];rfl
    ·have e1:decide (((aa p:Int)-1)<1)=false:=aG aw;simp -dsimp only[go_sem,e1];refine⟨(aA hK),hKB,hKE,?_⟩;rw[if_neg (fun h=>hs h.1),h5,hu];rfl
   ·rw[if_neg hu];simp -dsimp only[go_sem,h5,k1,Int.reduceLT,decide_true];refine aK (dq u aw) ?_;rw[if_neg hu];simp -dsimp only[go_sem,h5,Int.reduceLT,decide_true]
    repeat(refine And.intro aw ?_)
    refine again u aw ⟨(aA hK),hKB,hKE,(u:Int)-1,aw,aw,aw,fun _=>by omega,rfl⟩
 ·rintro e τ β ε π hK hKB hKE ⟨rfl,h5⟩;simp -dsimp only[go_sem,h5]
theorem nv {p q:PQ} {h k:Nat} (hp:am h p) (hq:am k q) (hb:h<=137438953000) (hb':k<=137438953000) (sp:aa p<=1048576) (sq:aa q<=1048576) (hc:p=0\/q=0\/(aa p=1/\aa q=1)):Fn Tryz.prog 94 [iUp p,iUp q] [iUp (kW p q)]:=by
 refine aJ (fn:=Tryz.f94) ?_;by_cases hp0:p=0
 ·have e1:=hzU p;rw[aF hp0]at e1;simp -dsimp only[go_sem,e1,az];refine ao (cC hq hb' sq) rfl ?_;simp -dsimp only[go_sem];rw[kW,if_pos hp0]
 ·have e1:=hzU p;rw[aG hp0]at e1;by_cases hq0:q=0
  ·have e2:=hzU q;rw[aF hq0]at e2;simp -dsimp only[go_sem,e1,e2,az];refine ao (cC hp hb sp) rfl ?_;simp -dsimp only[go_sem];rw[kW,if_neg hp0,if_pos hq0]
  ·have e2:=hzU q;rw[aG hq0]at e2;have h1:aa p=1/\aa q=1:=by rcases hc with h|h|h<;>first|exact absurd h hp0|exact absurd h hq0|exact h
   have tp:=DW hp0 hq0 sp sq;rw[if_pos h1]at tp;simp -dsimp only[go_sem,e1,e2,az];refine ao tp rfl ?_;simp -dsimp only[go_sem,Int.reduceLT,decide_true];refine aK Jo ?_;simp -dsimp only[go_sem];rw[kW,if_neg hp0,if_neg hq0]
theorem Am (p:PQ) (sp:aa p<=1048575):Fn Tryz.prog 167 [iUp p,iN 0] [.c (.lst (cq (fun i=>U (an (p.c i))) (aa p)))]:=by
 have hlen:∀(f:Nat->List Tm) (n:Nat),(cq f n).length=n:=fun f n=>by simp[cq]
 refine aJ (fn:=Tryz.f167) ?_;simp -dsimp only[go_sem];refine cf 5 7 1 (rs:=[]) rfl au ?_;refine br [(5,6),(8,21)] [] [(7,7),(21,21)] (fun n τ β ε=>∃ i:Nat,n=aa p-i/\i<=aa p/\τ 6 = .i (iN i)/\Own 1 (cq (fun i=>U (an (p.c i))) i) 5 7 τ ε)
  (fun e τ β ε=>e = .exit 0/\Own 1 (cq (fun i=>U (an (p.c i))) (aa p)) 5 7 τ ε) (aa p) ?_ ?_ ?_
 ·exact⟨0,aw,aw,rfl,Own.mk (g:=1) (mm:=false) aw rfl rfl rfl⟩
 ·rintro n τ β ε π hK hKB hKE ⟨i,hn,hi,h6,g,mm,hg,h5,h7⟩;rw[hlen]at h5;have k0:τ 0 = .i (iUp p):=(hK 0 rfl).trans rfl;have k1:τ 1 = .i (iN 0):=(hK 1 rfl).trans rfl;simp -dsimp only[go_sem,h6,k0,k1];refine aK (gg p aw) ?_;by_cases hlt:i<aa p
  ·have dA:decide ((i:Int)<=(aa p:Int)-1)=true:=aF aw;simp -dsimp only[go_sem,h6,k0,k1,dA,h5];refine aK (oN p i aw) ?_;simp -dsimp only[go_sem,h5,h7,hg,h6,hlen]
   repeat(refine And.intro aw ?_)
   refine bc (aa p-(i+1)) 5 21 7 aw rfl rfl aw aH ⟨(aA hK),hKB,(aA hKE),i+1,rfl,aw,rfl,?_⟩;refine Own.mk2 (Nat.succ_pos _) (by simp -dsimp only[go_sem];rfl) (by simp -dsimp only[go_sem];rfl) (by simp[hlen]) ?_;unfold cq;rw[List.range_succ,List.map_append];rfl
  ·have dA:decide ((i:Int)<=(aa p:Int)-1)=false:=aG aw;obtain rfl:i=aa p:=aw;simp -dsimp only[go_sem,dA];exact⟨(aA hK),hKB,hKE,Own.mk hg h5 (by rw[hlen]) h7⟩
 ·rintro e τ β ε π hK hKB hKE ⟨rfl,g,mm,hg,h5,h9⟩;refine⟨_,bA.refl _,?_⟩;simp -dsimp only[go_sem,h5,h9,hg,hlen];rw[List.take_of_length_le (by rw[hlen];omega)]
theorem md {p:PQ} {h:Nat} (hp:am h p) (hb:h<=137438953000) (hp0:p≠0) (sp:aa p<=1048575):Fn Tryz.prog 132 [iUp p,iN 0] [iUp 1]:=by
 have hlen:∀(f:Nat->List Tm) (n:Nat),(cq f n).length=n:=fun f n=>by simp[cq]
 have hrow:∀ j,j<aa p->(cq (fun i=>U (an (p.c i))) (aa p))[j]?=some [cM (U (an (p.c j)))]:=fun j hj=>by rw[cq,List.getElem?_map,List.getElem?_range hj];rfl
 have hp1:=aV hp0;refine aJ (fn:=Tryz.f132) ?_;simp -dsimp only[go_sem];refine aK (Am p sp) ?_;simp -dsimp only[go_sem];refine nL (bA.imm _ 6 (x:=iM []) rfl) ?_;refine be [(6,7),(12,23)] [] [] (fun n τ β ε=>∃ i:Nat,n=aa p-i/\i<=aa p/\τ 7 = .i (iN i)/\τ 6 = .i (iUp (if ∃ j,j<i/\p.c j≠0 then 1 else 0)))
  (fun e τ β ε=>e = .exit 0/\τ 6 = .i (iUp 1)) (aa p) ?_ ?_ ?_
 ·exact⟨0,aw,aw,rfl,by simp -dsimp only[go_sem];rw[if_neg (fun⟨j,h,_⟩=>by omega),ky,cp]⟩
 ·rintro n τ β ε π hK hKB hKE ⟨i,hn,hi,h7,h6⟩;have k5:τ 5 = .i (.c (.lst (cq (fun i=>U (an (p.c i))) (aa p)))):=(hK 5 rfl).trans rfl;by_cases hlt:i<aa p
  ·have dA:decide ((i:Int)<(aa p:Int))=true:=aF aw;have c1:an (1:Rat)=(1:PQ):=cu;have c0:an (0:Rat)=(0:PQ):=cS;have hg:kW (if ∃ j,j<i/\p.c j≠0 then 1 else 0) (an (p.c i))=if ∃ j,j<i+1/\p.c j≠0 then 1 else 0:=by
    have a:=uc (if ∃ j,j<i/\p.c j≠0 then 1 else 0) (p.c i)
    by_cases h1:∃ j,j<i/\p.c j≠0
    ·rw[if_pos h1,c1]at a;rw[if_pos h1,a,if_neg (fun h=>absurd h.1 aH),if_pos (by obtain⟨j,h2,h3⟩:=h1;exact⟨j,aw,h3⟩)]
    ·rw[if_neg h1,c0]at a;rw[if_neg h1,a];by_cases h2:p.c i=0
     ·rw[if_pos ⟨rfl,h2⟩,if_neg];rintro ⟨j,h3,h4⟩;by_cases e:j=i
      ·rw[e]at h4;exact h4 h2
      ·exact h1 ⟨j,aw,h4⟩
     ·rw[if_neg (fun h=>h2 h.2),if_pos ⟨i,aw,h2⟩]
   have call:Fn Tryz.prog 94 [iUp (if ∃ j,j<i/\p.c j≠0 then 1 else 0),iUp (an (p.c i))] [iUp (kW (if ∃ j,j<i/\p.c j≠0 then 1 else 0) (an (p.c i)))]:=by
    by_cases h1:∃ j,j<i/\p.c j≠0
    ·rw[if_pos h1];refine nv (dm 0) (ms hp i) aw hb (by rw[cD];omega) (by have:=it (p.c i);omega) ?_;rcases NI (p.c i)with h|h
     ·exact .inr (.inl h)
     ·exact .inr (.inr ⟨cD,h⟩)
    ·rw[if_neg h1];exact nv (am.zero 0) (ms hp i) aw hb (by rw[aM.2 rfl];omega) (by have:=it (p.c i);omega) (.inl rfl)
   rw[hg]at call;simp -dsimp only[go_sem,h7,h6,k5,dA,hlen];refine⟨_,hrow i hlt,?_⟩;simp -dsimp only[go_sem,h7,h6,k5,Int.reduceToNat,Int.reduceLE,aC];refine aK call ?_;simp -dsimp only[go_sem,h7]
   repeat(refine And.intro aw ?_)
   exact again (aa p-(i+1)) aw ⟨(aA hK),hKB,hKE,i+1,rfl,aw,rfl,rfl⟩
  ·have dA:decide ((i:Int)<(aa p:Int))=false:=aG aw;obtain rfl:i=aa p:=aw;rw[if_pos ⟨aa p-1,aw,bP hp0⟩]at h6;simp -dsimp only[go_sem,h7,k5,dA,hlen];exact⟨(aA hK),hKB,hKE,h6⟩
 ·rintro e τ β ε π hK hKB hKE ⟨rfl,h6⟩;simp -dsimp only[go_sem,h6]
theorem F7 {p q s:PQ} {h k:Nat} (hp:am h p) (hq:am k q) (hq0:q≠0) (hb:h+(aa p+2)*(k+1)+k<=137438953000) (sp:aa p<=524288) (sq:aa q<=524288) (e:p=s*q):Fn Tryz.prog 168 [iUp p,iUp q] [iUp s]:=by
 have:=uK hp hq hq0 hb sp sq;rw[gP hq0 e]at this;refine aJ (fn:=Tryz.f168) ?_;simp -dsimp only[go_sem];refine aK this ?_;simp -dsimp only[go_sem]
theorem gX {p:PQ} {h:Nat} (hp:am h p) (hb:h+2*aa p+2<=137438953000) (sp:aa p<=524288):Fn Tryz.prog 133 [iUp p,iN 0] [iUp p]:=by
 have hz:=hzU p;refine aJ (fn:=Tryz.f133) ?_;by_cases hp0:p=0
 ·rw[aF hp0]at hz;simp -dsimp only[go_sem,hz,az];rw[ky,hp0,cp];rfl
 ·rw[aG hp0]at hz;simp -dsimp only[go_sem,hz,az];refine aK (md hp aw hp0 aw) ?_;simp -dsimp only[go_sem];refine ao (F7 hp (dm 0) fK aw sp (by rw[cD];omega) (s:=p) (mul_one p).symm) rfl ?_;simp -dsimp only[go_sem]
end Go.AM
