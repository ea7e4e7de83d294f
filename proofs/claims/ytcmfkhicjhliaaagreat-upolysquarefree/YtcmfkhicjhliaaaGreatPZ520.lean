/- Lemmas, part 21 of 23. No condition. -/
import Derived.Test.YtcmfkhicjhliaaaGreatPZ519
set_option maxRecDepth 65536
set_option linter.unusedSimpArgs false
set_option linter.unusedVariables false
set_option linter.unusedSectionVars false
namespace Go.AM
open Go.Proofs
open Classical
abbrev one1:List Tm:=[(e0,1)]
def Tok (t:Tm):Prop:=dc t.1/\t.1.lt 1099511627776/\t.2≠0/\QB 4294967296 t.2
theorem Pm (e:Ex):e0.add e=e:=by simp[e0,Ex.add]
theorem GG (e:Ex):cp e e=0:=(jK e e).2 rfl
theorem Gd {m:Tm} (h:Tok m):Ge one1 [m]=[m]:=by
 have e1:sumM one1 [m] []=[m]:=by
  simp only[sumM,rowM,List.foldl_cons,List.foldl_nil,addT,Pm];rw[show(1:Rat)*m.2=m.2 from Rat.one_mul _]
 rw[Ge,e1,vM];have e2:keep m=true:=by
  unfold keep;rw[aF h.1,aF h.2.2.1];rfl
 simp only[List.filter_cons,e2,if_true,List.filter_nil,FK,qh]
theorem FH (m:Tm) (R:List Tm):FI (m::R) [m]=R:=by
 rw[FI,jF _ aH,List.map_cons,List.map_nil,jN];simp only[GG];rw[if_neg aH,if_neg aH,if_pos (by show m.2+m.2 * -1=0;rw[Rat.mul_neg,Rat.mul_one];exact Rat.add_neg_cancel _),jM]
theorem DQ (q:Rat):q/1=q:=by rw[Rat.div_def,show(1:Rat)⁻¹=1 by decide +kernel];exact Rat.mul_one q
theorem Bj (N:List Tm) (hl:N.length<=1048576) (h:∀ t∈N,Tok t):Fn Tryz.prog 152 [iM N,iM one1] [iM N,iB true]:=by
 refine aJ (fn:=Tryz.f152) ?_;have c1:one1[0]?=some (e0,1):=rfl;have e1:decide (((1:Nat):Int)=0)=false:=rfl;simp -dsimp only[go_sem,e1,az];refine cv 6 6 8 (rs:=[]) rfl au ?_;refine bt [(0,0),(4,8),(12,59)] [(7,7)] [(53,53),(6,6)] (fun n τ β ε=>∃ i:Nat,n=N.length-i/\i<=N.length/\τ 0 = .i (iM (N.drop i))/\Own 8 ((N.take i).map eT) 6 6 τ ε)
  (fun e τ β ε=>e = .exit 0/\Own 8 (N.map eT) 6 6 τ ε) N.length ?_ ?_ ?_
 ·exact⟨0,aw,aw,rfl,Own.mk (g:=1) (mm:=false) aw rfl rfl rfl⟩
 ·rintro n τ β ε π hK hKB hKE ⟨i,hn,hi,h0,g,mm,hg,h6,hrow⟩;have hlen:(N.take i).length=i:=by simp;omega
  rw[az,hlen]at h6;have k1:τ 1 = .i (iM one1):=(hK 1 rfl).trans rfl;by_cases hlt:i<N.length
  ·obtain⟨m,hmi⟩:∃ m,N[i]=m:=⟨_,rfl⟩;obtain⟨R,eR⟩:∃ R,N.drop (i+1)=R:=⟨_,rfl⟩;have hdr:N.drop i=N[i]::N.drop (i+1):=List.drop_eq_getElem_cons hlt;have hm:=h _ (List.getElem_mem hlt);have htk:N.take (i+1)=N.take i++[N[i]]:=aq hlt;have hll:(N.drop (i+1)).length<=1048576:=by simp;omega
   rw[hmi,eR]at hdr;rw[hmi]at hm htk;rw[eR]at hll;have hRq:∀ t∈m::R,QB 8589934592 t.2:=fun t ht=>by
    rw[<-hdr]at ht;exact(h t (List.mem_of_mem_drop ht)).2.2.2.mono' aw
   rw[hdr]at h0;have cR:(m::R)[0]?=some m:=rfl;have hA:(0:Int)<((R.length+1:Nat):Int):=aw;have lR:(m::R).length=R.length+1:=rfl;obtain⟨t1,t2,t3,t4⟩:=hm;have eN:decide (dc m.1)=true:=aF t1;unfold dc at t1;have t2':=t2;unfold Ex.lt at t2';simp -dsimp only[go_sem,h0,hA,Int.reduceToNat,Int.reduceLE,aC];refine aP cR ?_;simp -dsimp only[go_sem,h0,hA,h6,hrow];refine bt [(8,8),(18,34)] [(7,7)] [] (fun n τ' β' ε'=>∃ i:Nat,n=4-i/\i<=4/\τ' 18 = .i (iN i)/\β' 7=⟨(β 7).gen+1,eT m⟩)
    (fun e τ' β' ε'=>e = .exit 2/\β' 7=⟨(β 7).gen+1,eT m⟩) 4 ?_ ?_ ?_
   ·exact⟨0,aw,aw,rfl,rfl⟩
   ·rintro n2 τ2 β2 ε2 π2 hK2 hKB2 hKE2 ⟨i,hn2,hi,h18,b7⟩;have q7:τ2 7 = .bp 7 ((β 7).gen+1) 0:=(hK2 7 rfl).trans rfl;have q1:τ2 1 = .i (iM one1):=(hK2 1 rfl).trans k1;obtain rfl|rfl|rfl|rfl|rfl:i=4\/i=0\/i=1\/i=2\/i=3:=aw
    ·have h18':τ2 18 = .i (iN 4):=h18;simp -dsimp only[go_sem,h18',Int.reduceLT,decide_false];exact⟨(aA hK2),hKB2,hKE2,b7⟩
    ·have h18':τ2 18 = .i (iN 0):=h18;simp -dsimp only[go_sem,h18',Int.reduceLT,decide_true];refine ap 13 [] false true ?_;simp -dsimp only[go_sem,h18',q1,q7,b7,Int.reduceToNat,Int.reduceLE,aC,Int.reduceAdd];refine aP c1 ?_;simp -dsimp only[go_sem,h18',q1,q7,b7,Int.reduceToNat,Int.reduceLE,aC,Int.reduceAdd,e0,Int.sub_zero]
     repeat(refine And.intro aw ?_)
     refine again (4-1) aw ⟨(aA hK2),(aA hKB2),hKE2,1,rfl,aw,rfl,?_⟩;simp -dsimp only[go_sem]
    ·have h18':τ2 18 = .i (iN 1):=h18;simp -dsimp only[go_sem,h18',Int.reduceLT,decide_true];refine ap 13 [] false true ?_;simp -dsimp only[go_sem,h18',q1,q7,b7,Int.reduceToNat,Int.reduceLE,aC,Int.reduceAdd];refine aP c1 ?_;simp -dsimp only[go_sem,h18',q1,q7,b7,Int.reduceToNat,Int.reduceLE,aC,Int.reduceAdd,e0,Int.sub_zero]
     repeat(refine And.intro aw ?_)
     refine again (4-2) aw ⟨(aA hK2),(aA hKB2),hKE2,2,rfl,aw,rfl,?_⟩;simp -dsimp only[go_sem]
    ·have h18':τ2 18 = .i (iN 2):=h18;simp -dsimp only[go_sem,h18',Int.reduceLT,decide_true];refine ap 13 [] false true ?_;simp -dsimp only[go_sem,h18',q1,q7,b7,Int.reduceToNat,Int.reduceLE,aC,Int.reduceAdd];refine aP c1 ?_;simp -dsimp only[go_sem,h18',q1,q7,b7,Int.reduceToNat,Int.reduceLE,aC,Int.reduceAdd,e0,Int.sub_zero]
     repeat(refine And.intro aw ?_)
     refine again (4-3) aw ⟨(aA hK2),(aA hKB2),hKE2,3,rfl,aw,rfl,?_⟩;simp -dsimp only[go_sem]
    ·have h18':τ2 18 = .i (iN 3):=h18;simp -dsimp only[go_sem,h18',Int.reduceLT,decide_true];refine ap 13 [] false true ?_;simp -dsimp only[go_sem,h18',q1,q7,b7,Int.reduceToNat,Int.reduceLE,aC,Int.reduceAdd];refine aP c1 ?_;simp -dsimp only[go_sem,h18',q1,q7,b7,Int.reduceToNat,Int.reduceLE,aC,Int.reduceAdd,e0,Int.sub_zero]
     repeat(refine And.intro aw ?_)
     refine again (4-4) aw ⟨(aA hK2),(aA hKB2),hKE2,4,rfl,aw,rfl,?_⟩;simp -dsimp only[go_sem]
   ·rintro e τ2 β2 ε2 π2 hK2 hKB2 hKE2 ⟨rfl,b7⟩;refine⟨_,bA.refl _,?_⟩;have r7:τ2 7 = .bp 7 ((β 7).gen+1) 0:=(hK2 7 rfl).trans rfl;have r1:τ2 1 = .i (iM one1):=(hK2 1 rfl).trans k1;have r0:τ2 0 = .i (iM (m::R)):=(hK2 0 rfl).trans h0;have r6:τ2 6 = .sl 6 g i:=(hK2 6 rfl).trans h6;have rr:ε2 6=⟨g,8,(N.take i).map eT,mm,true⟩:=(hKE2 6 rfl).trans hrow;have kO:=Kp.step2 hK hK2 (by intro n;simp[inR]<;>omega) (aA hK);have kB:=Kp.step2 hKB hKB2 (by intro n;simp[inR]<;>omega) (aA hKB);have kE:=Kp.step2 hKE hKE2 (by intro n;simp[inR]) hKE;have hq1:QB 17179869184 (1:Rat):=n6;have hq2:=t4.mono' (m:=8589934592) aw;have hmm:(1:Rat)*m.2=m.2:=Rat.one_mul _;simp -dsimp only[go_sem,r7,b7,r1,r0];refine aQ (args':=[iE m.1]) rfl (mj _) ?_;simp -dsimp only[go_sem,eN];refine bB av 9 11 [] true [.tmp 49] none av av av av aE ?_;simp -dsimp only[go_sem,r7,b7,r1,r0,Int.reduceToNat,Int.reduceLE,aC];refine aP c1 ?_;simp -dsimp only[go_sem,r7,b7,r1,r0,Int.reduceToNat,Int.reduceLE,aC];refine aQ (args':=[iQ m.2,iQ 1]) rfl (tu _ _ aH (t4.mono' aw) hq1) ?_;rw[DQ];simp -dsimp only[go_sem,r7,b7,r1,r0,Int.reduceToNat,Int.reduceLE,aC];simp -dsimp only[go_sem,r6,rr,hg,az,hlen]
    repeat(refine And.intro aw ?_)
    simp -dsimp only[go_sem,r7,r1,r0];refine aQ (args':=[iM one1,iM [m]]) rfl (yC one1 [m] aH au (fun t ht=>by simp at ht;subst ht;simp[Ex.lt,e0]) (fun t ht=>by simp at ht;subst ht;unfold Ex.lt;omega)
     (fun t ht=>by simp at ht;subst ht;exact hq1) (fun t ht=>by simp at ht;subst ht;exact t4.mono' aw) ?_) ?_
    ·intro i' j' hi' hj';obtain rfl:i'=0:=by simp at hi';omega
     obtain rfl:j'=0:=by simp at hj';omega
     refine⟨?_,fun e q hq=>?_⟩
     ·show QB 8589934592 ((1:Rat)*m.2);rw[hmm];exact hq2
     ·simp[rowM,sumM]at hq
    rw[Gd ⟨by unfold dc;exact t1,t2,t3,t4⟩];simp -dsimp only[go_sem,r0];refine ao (EV (m::R) [m] ar hRq (fun t ht=>by simp at ht;subst ht;exact hq2)) rfl ?_;rw[FH];simp -dsimp only[go_sem];refine be (N.length-(i+1)) 6 53 6 aw rfl rfl aw aH ⟨(aA kO),(aA kB),(aA kE),i+1,rfl,aw,by rw[eR];simp -dsimp only[go_sem],?_⟩;exact Own.mk2 (Nat.succ_pos _) (by simp -dsimp only[go_sem];rfl) (by simp -dsimp only[go_sem];rfl) ar (by simp only[<-List.map_take];rw[htk,List.map_append];rfl)
  ·have hA:¬ (0:Int)<((0:Nat):Int):=aw;obtain rfl:i=N.length:=aw;rw[List.take_length]at hrow;rw[List.drop_length]at h0;simp -dsimp only[go_sem,h0,hA];exact⟨(aA hK),hKB,hKE,Own.mk hg h6 au hrow⟩
 ·rintro e τ β ε π hK hKB hKE ⟨rfl,g,mm,hg,h6,hrow⟩;refine⟨_,bA.refl _,?_⟩;rw[az]at h6;simp -dsimp only[go_sem,h6,hrow,hg]
theorem KC {N:List Tm} (hN:N≠[]):Fn Tryz.prog 151 [iM N,iM one1] [iM one1]:=by
 have e1:decide ((N.length:Int)=0)=false:=aG fun h=>hN (List.eq_nil_of_length_eq_zero aw);have e2:decide (((1:Nat):Int)=0)=false:=rfl;refine aJ (fn:=Tryz.f151) ?_;simp -dsimp only[go_sem,e1,e2,az];refine ao (nS N) rfl ?_;by_cases h1:Ad N=true
 ·simp -dsimp only[go_sem,h1];refine aK Ce ?_;simp -dsimp only[go_sem]
 ·have e3:Ad N=false:=by simpa using h1
  simp -dsimp only[go_sem,e3];refine ao (nS one1) rfl ?_;rw[show Ad one1=true from rfl];simp -dsimp only[go_sem];refine aK Ce ?_;simp -dsimp only[go_sem]
theorem tZ (N:List Tm):eC N 1=N:=by
 rw[jF _ aH]
 conv=>rhs;rw[<-List.map_id N]
 exact List.map_congr_left fun t _=>by rw[Rat.mul_one];rfl
theorem zg:∀ t∈one1,Tok t:=by
 intro t ht;simp at ht;subst ht;refine⟨by simp[dc,e0],by simp[Ex.lt,e0],aH,?_,?_⟩
 ·exact ax (fI (k:=1) aH) aw
 ·exact ax (fI (k:=1) aH) aw
theorem Bg (N:List Tm) (hl:N.length<=1048576) (h:∀ t∈N,Tok t):Fn Tryz.prog 110 [iM N,iM one1] [iF N one1,iN 0]:=by
 by_cases hN:N=[]
 ·subst hN;exact Bf au
 have q1:∀ t∈N,QB 17179869184 t.2:=fun t ht=>(h t ht).2.2.2.mono' aw;have:=KJ (N:=N) (D:=one1) (G:=one1) (N1:=N) (D1:=one1) (c:=1) (x:=(e0,1)) au hN (KC hN) (Bj N hl h) (Bj one1 aH zg) rfl aH n6 (DQ 1).symm
  (kk N 1 aw q1 n6) (kk one1 1 aH (fun t ht=>(zg t ht).2.2.2.mono' aw) n6)
 rw[tZ,tZ]at this;exact this
abbrev F2:=List Tm×List Tm
def fr2 (x:F2):List C:=[cM x.1,cM x.2]
abbrev fl (l:List F2):IV := .c (.lst (l.map fr2))
theorem Nb {a:List Tm} {v:Nat} {L:List (List Tm)} (hl:L.length<=1099511627776) (h:FnM Tryz.prog 89 [iM a,iN v] 1 (L.map fun N=>[cM N])):Fn Tryz.prog 43 [iM a,iN v] [fl (L.map fun N=>(N,one1))]:=by
 refine aJ (fn:=Tryz.f43) ?_;simp -dsimp only[go_sem];refine co h ?_;simp -dsimp only[go_sem,az];refine cv 5 5 2 (rs:=[]) rfl au ?_;refine bt [(5,5),(7,7),(12,21)] [] [(20,20),(5,5)] (fun n τ β ε=>∃ i:Nat,n=L.length-i/\i<=L.length/\τ 12 = .i (iN i)/\Own 2 ((L.take i).map fun N=>fr2 (N,one1)) 5 5 τ ε)
  (fun e τ β ε=>e = .exit 0/\Own 2 (L.map fun N=>fr2 (N,one1)) 5 5 τ ε) L.length ?_ ?_ ?_
 ·exact⟨0,aw,aw,rfl,Own.mk (g:=1) (mm:=false) (len:=0) aw rfl rfl rfl⟩
 ·rintro n τ β ε π hK hKB hKE ⟨i,hn,hi,h12,g,mm,hg,h5,hrow⟩;have k10:τ 10 = .sl 10 1 L.length:=(hK 10 rfl).trans rfl;have k11:τ 11 = .i (iN L.length):=(hK 11 rfl).trans rfl;have e10:ε 10=⟨1,1,L.map fun N=>[cM N],!L.isEmpty,true⟩:=by rw[hKE 10 aH];simp -dsimp only[go_sem,List.isEmpty_map]
  have hlen:(L.take i).length=i:=by simp;omega
  rw[az,hlen]at h5;by_cases hlt:i<L.length
  ·have hA:(i:Int)<(L.length:Int):=aw;have hgl:L[i]?=some L[i]:=aD hlt;have htk:L.take (i+1)=L.take i++[L[i]]:=aq hlt;simp -dsimp only[go_sem,h12,k10,k11,e10,hA,az];refine⟨hlt,aP hgl ?_⟩;simp -dsimp only[go_sem,h12,k10,k11,e10,h5,hrow];refine aQ (args':=[iM L[i]]) rfl (vA _) ?_;simp -dsimp only[go_sem,h12,h5,hrow,hg,az,hlen]
   repeat(refine And.intro aw ?_)
   refine be (L.length-(i+1)) 5 20 5 aw rfl rfl aw aH ⟨(aA hK),hKB,(aA hKE),i+1,rfl,aw,rfl,?_⟩;exact Own.mk2 (Nat.succ_pos _) (by simp -dsimp only[go_sem];rfl) (by simp -dsimp only[go_sem];rfl) ar (by simp only[<-List.map_take];rw[htk,List.map_append];rfl)
  ·have hA:¬ (i:Int)<(L.length:Int):=aw;obtain rfl:i=L.length:=aw;rw[List.take_length]at hrow;simp -dsimp only[go_sem,h12,k11,hA];exact⟨(aA hK),hKB,hKE,Own.mk hg h5 au hrow⟩
 ·rintro e τ β ε π hK hKB hKE ⟨rfl,g,mm,hg,h5,hrow⟩;refine⟨_,bA.refl _,?_⟩;rw[az]at h5;simp -dsimp only[go_sem,h5,hrow,hg];simp[Function.comp_def]
theorem P6 (rs:List (List C)):FnC Tryz.prog 95 [.c (.lst rs)] 136 [[.lst rs]]:=by
 refine rT kd (fn:=Tryz.f95) av rfl rfl rfl av au av ?_;simp -dsimp only[go_sem,kg];refine ms (ts:=[(1,1)]) (by simp -dsimp only[go_sem]) (by simp -dsimp only[go_sem]) ?_;simp -dsimp only[go_sem,x9];exact⟨[(1,1)],rfl,au,au,rfl⟩
theorem Nq (l:List F2) (hl:l.length<=1099511627776):KA Tryz.prog 136 [[.lst (l.map fr2)]] (wU (fun x=>iF x.1 x.2) l):=by
 refine pD (fn:=Tryz.f136) av rfl rfl rfl av au av ?_;intro c hc hbl hL;rw[Ac];have hb1:c.bs.length=1:=hbl;refine WPi.seq_k hc kd fun K hK _=>?_;simp -dsimp only[go_sem,az]
 repeat(refine And.intro aw ?_)
 refine hK _ (cN hb1) ?_;refine WPi.block (WPi.loop (fun n s k=>∃ τ,s=⟨τ,upd mS 1000 ⟨1,[.lst (l.map fr2)]⟩,oQ,nJ⟩/\τ 0=sc (.func (.yield c.l) #[] #[])/\τ 1 = .bp 1000 1 0/\n<=l.length/\τ 3 = .i (iN ((n:Int)-1))/\k=some (l.length-n)) (n:=l.length) ⟨_,rfl,rfl,rfl,ay _,rfl,au⟩ ?_);rintro n s k ⟨τ,rfl,h0,h1,hn,h3,rfl⟩;refine WPi.seq_k hc kd fun K hK hK2=>?_;cases n with
 | zero =>
  have e1:decide ((0:Int)<=((0:Nat):Int)-1)=false:=rfl;simp -dsimp only[go_sem,h3,e1];refine hK2 _ _ au (cN hb1) ?_;refine⟨.inl rfl,.inl ?_⟩;rw[jL];simp
 | succ n =>
  have en:((n+1:Nat):Int)-1=(n:Int):=aw;rw[en]at h3;have e1:decide ((0:Int)<=(n:Int))=true:=aF aw;have hg:l[n]?=some l[n]:=aD aw;simp -dsimp only[go_sem,h3,e1];refine hK _ (cN hb1) ?_;refine WPi.seq ?_;refine WPi.block ?_;refine WPi.seq ?_;refine WPi.yreg_k hc kd 6 17 (l.length-(n+1)) [iN (n:Int),iF l[n].1 l[n].2] rfl rfl rfl rfl (by rw[hL];exact oC _ _ aw) fun K1 K2 hK1 hK2=>?_;simp -dsimp only[go_sem,h0,h1,h3];refine aP hg ?_;simp -dsimp only[go_sem,h0,h1,h3,fr2];refine⟨cN hb1,rfl,?_⟩;refine⟨hK1 _ (cN hb1) ?_,hK2 _ (cN hb1) ?_⟩
  ·refine WPi.end_k hc kd fun K hK=>?_;simp -dsimp only[go_sem];refine hK _ _ (cN hb1) ?_;refine WPi.end_k hc kd fun K hK=>?_;simp -dsimp only[go_sem,h3]
   repeat(refine And.intro aw ?_)
   refine hK _ _ (cN hb1) ?_;refine⟨n,aw,_,rfl,h0,h1,aw,rfl,?_⟩;congr 1;omega
  ·refine WPi.end_k hc kd fun K hK=>?_;simp -dsimp only[go_sem];refine hK _ _ (cN hb1) ?_;exact⟨.inr rfl,.inr rfl⟩
theorem Ry (l:List F2) (v:Nat) (hv:v<4) (hl:l.length<=1099511627776) (o:Nat->F2) (h0:Fn Tryz.prog 63 [iN 0] [.g (fr2 (o 0))])
  (H:∀(k:Nat) (h:k<l.length),∃ m:F2,Fn Tryz.prog 65 [.g (fr2 (o k)),iF [(e0.to v 1,1)] one1] [.g (fr2 m)]/\Fn Tryz.prog 64 [.g (fr2 m),.g (fr2 l[l.length-(k+1)])] [.g (fr2 (o (k+1)))]) :
  Fn Tryz.prog 48 [fl l,iN v] [.g (fr2 (o l.length))]:=by
 refine oI (fn:=Tryz.f48) av rfl rfl rfl av au av ?_;refine WPn.seq_k kd fun K hK _=>?_;simp -dsimp only[go_sem];refine hK _ ?_;refine WPn.seq_k kd fun K hK _=>?_;simp -dsimp only[go_sem];refine aK h0 ?_;simp -dsimp only[go_sem];refine⟨rfl,hK _ ?_⟩;refine WPn.seq ?_;refine WPn.seq_k kd fun K hK _=>?_;simp -dsimp only[go_sem];refine oB [1000] rfl rfl rfl (P6 (l.map fr2)) au rfl ?_;rw[AD];simp -dsimp only[go_sem];refine hK _ (WPn.block (WPn.rangeFunc (ts:=[(1000,1)]) [3,5] (fun k cs=>cs=[[C.v (.int .i64 (v:Int))],fr2 (o k)]) (fun _ _=>False) (by simp -dsimp only[go_sem]) (by simp -dsimp only[go_sem]) au rfl (Nq l hl) au (by simp -dsimp only[go_sem];decide) ?_ ?_ ?_ ?_ ?_))
 ·simp -dsimp only[go_sem];rfl
 ·intro x hx;obtain⟨p,-,rfl⟩:=List.mem_map.1 hx;rfl
 ·rintro k x cs hx rfl -;have hk:k<l.length:=by
   have:=(List.getElem?_eq_some_iff.1 hx).1;rwa [jL]at this
  have hx2:=oC (fun x:F2=>iF x.1 x.2) l (i:=l.length-(k+1)) aw;rw[show l.length-(l.length-(k+1)+1)=k by omega,hx]at hx2;cases hx2;obtain⟨m,H1,H2⟩:=H k hk;generalize hs:bV _ _ _ _ _=s;obtain⟨τ,β,ε,π⟩:=s;have h12:τ 12 = .i (iF l[l.length-(k+1)].1 l[l.length-(k+1)].2):=by
   rw[sJ hs];simp -dsimp only[go_sem,bV,jm]
  have h3:τ 3 = .bp 3 1 0:=by
   rw[sJ hs];simp -dsimp only[go_sem,bV,jm];rw[pb]<;>simp -dsimp only[go_sem]
  have h5:τ 5 = .bp 5 1 0:=by
   rw[sJ hs];simp -dsimp only[go_sem,bV,jm];rw[pb]<;>simp -dsimp only[go_sem]
  have b3:β 3=⟨1,[C.v (.int .i64 (v:Int))]⟩:=by
   rw[C9 hs];simp -dsimp only[go_sem,bV,fe]
  have b5:β 5=⟨1,fr2 (o k)⟩:=by
   rw[C9 hs];simp -dsimp only[go_sem,bV,fe]
  clear hs;generalize l[l.length-(k+1)]=y at *
  refine WP.end_k kd fun K hK=>?_;simp -dsimp only[go_sem,h12];refine hK _ _ ⟨rfl,?_⟩;refine WP.end_k kd fun K hK=>?_;simp -dsimp only[go_sem,h12,h3,h5,b3,b5];refine ap 6 [] false true ?_;simp -dsimp only[go_sem,h12,h3,h5,b3,b5];refine ao (Nc v hv) rfl ?_;simp -dsimp only[go_sem,h12,h3,h5,b3,b5,fr2];refine ao H1 rfl ?_;simp -dsimp only[go_sem,h12,h3,h5,b3,b5,fr2];refine ao H2 rfl ?_;simp -dsimp only[go_sem,h12,h3,h5,b3,b5,fr2];refine hK _ _ ⟨by simp -dsimp only[go_sem,b3],?_⟩;simp -dsimp only[go_sem,b3];rfl
 ·rintro cs γs rfl-hγ;obtain⟨g,rfl⟩:=List.length_eq_one_iff.1 hγ;rw[jL];rw[iP,jw];refine WPn.end_k kd fun K hK=>?_;dsimp only[List.map,setB];simp -dsimp only[go_sem,fr2];refine hK _ _ ⟨.inr rfl,?_⟩;simp -dsimp only[go_sem,fr2]
 ·intro e cs γs _ h;exact h.elim
end Go.AM
namespace Alg
open Classical
section
variable {F:Type} [CR F] [Fd F]
theorem X_c (i:Nat):(ak:P F).c i=if i=1 then 1 else 0:=rfl
theorem zZ (c:F) (i:Nat):(ak-an c).c i=if i=0 then -c else if i=1 then 1 else 0:=by
 rw[i9,X_c]
 match i with
 | 0=>rw[if_neg aw,nV,if_pos rfl,sub_eq,zero_add]
 | 1=>rw[if_pos rfl,hY,sub_zero];rfl
 | i+2=>rw[if_neg aw,hY,sub_zero];rfl
theorem fg (c:F):aa (ak-an c)=2:=jU (fun i hi=>by rw[zZ,if_neg aw,if_neg aw]) fun _=>by rw[zZ,if_neg aw,if_pos rfl];exact one_ne
theorem jY (c:F):(ak-an c:P F)≠0:=fun h=>by
 have:=fg c;rw[h,aM.2 rfl]at this;omega
theorem Cp (c:F):lc (ak-an c)=1:=by rw[lc,fg,zZ,if_neg aw,if_pos rfl]
theorem LP (c:F):der (ak-an c)=1:=by rw[Mo,Rj,Rk,sub_zero]
theorem cY:aa (1:P F)=1:=jf (R:=F) one_ne
theorem f8:(1:P F)≠0:=d9 (R:=F) one_ne
theorem oO {a b q r:P F} (h:a=q*b+r) (hr:aa r<aa b):ab a b=r:=(md h hr).2
theorem QF {a b q r:P F} (h:a=q*b+r) (hr:aa r<aa b):qu a b=q:=(md h hr).1
theorem xF {a b q:P F} (hb:b≠0) (h:a=q*b):ab a b=0:=oO (q:=q) (by rw[h,add_zero]) (by rw[aM.2 rfl];exact aR hb)
theorem me {a b q:P F} (hb:b≠0) (h:a=q*b):qu a b=q:=QF (q:=q) (r:=0) (by rw[h,add_zero]) (by rw[aM.2 rfl];exact aR hb)
theorem ft {a:P F} {c:F} (hc:c≠0):ab a (an c)=0:=xF (q:=a*an (inv c)) (d9 hc) (by rw[mul_assoc,<-bC,cA hc,bP,mul_one])
theorem eu1 {a b:P F} (hb:b≠0) (h:ab a b=0):eu a b=[(a,b)]:=by rw[kK hb,h,jz]
theorem eu2 {a b r:P F} (hb:b≠0) (h:ab a b=r) (hr:r≠0) (h2:ab b r=0):eu a b=[(a,b),(b,r)]:=by rw[kK hb,h,eu1 hr h2]
theorem eu3 {a b r s:P F} (hb:b≠0) (h:ab a b=r) (hr:r≠0) (h2:ab b r=s) (hs:s≠0) (h3:ab r s=0):eu a b=[(a,b),(b,r),(r,s)]:=by rw[kK hb,h,eu2 hr h2 hs h3]
theorem gd1 {a b:P F} (hb:b≠0) (h:ab a b=0):ai a b=mn b:=by
 rw[<-Eh hb,h,ot]
theorem gd2 {a b r:P F} (hb:b≠0) (h:ab a b=r) (hr:r≠0) (h2:ab b r=0):ai a b=mn r:=by
 rw[<-Eh hb,h,gd1 hr h2]
theorem Gf {c:F} (hc:c≠0):mn (an c)=1:=by rw[mn,mV,<-bC,cA hc,bP]
theorem Ck (c:F):mn (ak-an c)=ak-an c:=lz (Cp c)
end
def PC (w:Nat) (p:P KQ):Prop:=∃(B:P Int) (A:Nat->P Int),B≠0/\(∀ i,p.c i*em (toQ B)=em (toQ (A i)))/\aa B<=w+1/\n1 B<=2 ^ w/\∀ i,aa (A i)<=w+1/\n1 (A i)<=2 ^ w
theorem PC.mono {w v:Nat} {p:P KQ} (h:PC w p) (hv:w<=v):PC v p:=by
 obtain⟨B,A,h1,h2,h3,h4,h5⟩:=h;exact⟨B,A,h1,h2,aw,ax h4 (cU hv),fun i=>⟨by have:=(h5 i).1;omega,ax (h5 i).2 (cU hv)⟩⟩
theorem PC.fb {w:Nat} {p:P KQ} (h:PC w p) (i:Nat):FB w (p.c i):=by
 obtain⟨B,A,h1,h2,h3,h4,h5⟩:=h;exact⟨A i,B,h1,Pc (dy h1) (h2 i),(h5 i).1,(h5 i).2,h3,h4⟩
theorem xt {A:P Int}:toQ A=0↔A=0:=⟨fun h=>Classical.byContradiction fun h'=>dy h' h,fun h=>by rw[h,cK]⟩
theorem DY {p:P KQ} {A:Nat->P Int} {B:P Int} (h:∀ i,p.c i*em (toQ B)=em (toQ (A i))) {i:Nat} (hi:p.c i=0):A i=0:=by
 have:=h i;rw[hi,zero_mul,<-ou]at this;exact xt.1 (ya this).symm
theorem Ch {H:Nat}:∀(n s:Nat) {f:Nat->Nat->P Int},(∀ i j,s<=i->f i j=0)->(∀ i j,n1 (f i j)<=H)->n1 (tri f n)<=s*H
 | 0,s,f,hz,hH=>by
  cases s with
  | zero=>simp only[tri];rw[hz 0 0 (ay _),iI];omega
  | succ s=>simp only[tri];exact ax (hH 0 0) (Nat.le_mul_of_pos_left _ aw)
 | n+1,s,f,hz,hH=>by
  simp only[tri];cases s with
  | zero =>
   rw[hz 0 _ (ay _),zero_add];exact Ch n 0 (f:=fun i j=>f (i+1) j) (fun i j _=>hz _ _ aw) (fun i j=>hH _ _)
  | succ s =>
   have h1:=Ch n s (f:=fun i j=>f (i+1) j) (fun i j h=>hz _ _ aw) (fun i j=>hH _ _);have h2:=ml (f 0 (n+1)) (tri (fun i j=>f (i+1) j) n);have h3:=hH 0 (n+1);rw[Nat.succ_mul];omega
theorem HK {N:Nat}:∀(n:Nat) {f:Nat->Nat->P Int},(∀ i j,aa (f i j)<=N)->aa (tri f n)<=N
 | 0,f,h=>h 0 0
 | n+1,f,h=>by
  simp only[tri];exact dh (h _ _) (HK n fun i j=>h _ _)
theorem JD:∀(n:Nat) (f:Nat->Nat->P Int),em (toQ (tri f n))=tri (fun i j=>em (toQ (f i j))) n
 | 0,f=>rfl
 | n+1,f=>by
  simp only[tri];rw[kC,uX,JD n]
theorem PC.mul {w v k:Nat} {p q:P KQ} (h:PC w p) (h':PC v q) (hk:aa p<=2 ^ k):PC (w+v+k) (p*q):=by
 obtain⟨B,A,h1,h2,h3,h4,h5⟩:=h;obtain⟨B',A',k1,k2,k3,k4,k5⟩:=h';refine⟨B*B',fun n=>tri (fun i j=>A i*A' j) n,a6 h1 k1,fun n=>?_,?_,?_,fun n=>⟨?_,?_⟩⟩
 ·rw[JD,iq,mul_comm,<-sW];refine eB fun i j _=>?_;rw[ck,pn,ck,pn,<-h2,<-k2];exact ring [p.c i,q.c j,em (toQ B),em (toQ B')]
 ·have:=f6 h3 k3;omega
 ·exact ax (jh _ _) (ax (bh h4 k4) (cU aw))
 ·exact ax (HK (N:=w+v+1) n (f:=fun i j=>A i*A' j) fun i j=>f6 (h5 i).1 (k5 j).1) aw
 ·have:=Ch (H:=2 ^ (w+v)) n (aa p) (f:=fun i j=>A i*A' j) (fun i j hi=>by rw[DY h2 (aO hi),zero_mul]) fun i j=>ax (jh _ _) (bh (h5 i).2 (k5 j).2);refine ax this (ax (bh hk (ay _)) (cU aw))
theorem PC.add {w v:Nat} {p q:P KQ} (h:PC w p) (h':PC v q):PC (w+v+1) (p+q):=by
 obtain⟨B,A,h1,h2,h3,h4,h5⟩:=h;obtain⟨B',A',k1,k2,k3,k4,k5⟩:=h';refine⟨B*B',fun i=>A i*B'+A' i*B,a6 h1 k1,fun i=>?_,?_,?_,fun i=>⟨?_,?_⟩⟩
 ·rw[ce,ck,pn,kC,uX,ck,pn,ck,pn,<-h2,<-k2];exact ring [p.c i,q.c i,em (toQ B),em (toQ B')]
 ·have:=f6 h3 k3;omega
 ·exact ax (jh _ _) (ax (bh h4 k4) (cU aw))
 ·refine dh ?_ ?_
  ·have:=f6 (h5 i).1 k3;omega
  ·have:=f6 (k5 i).1 h3;omega
 ·have e1:=ax (jh (A i) B') (bh (h5 i).2 k4);have e2:=ax (jh (A' i) B) (bh (k5 i).2 h4);rw[Nat.add_comm v w]at e2;exact ax (ml _ _) (kj e1 e2)
theorem PC.neg {w:Nat} {p:P KQ} (h:PC w p):PC w (-p):=by
 obtain⟨B,A,h1,h2,h3,h4,h5⟩:=h;exact⟨B,fun i => -A i,h1,fun i=>by rw[wT,neg_mul,h2,pN,CL],h3,h4,fun i=>by rw[kQ,rt];exact h5 i⟩
theorem PC.sub {w v:Nat} {p q:P KQ} (h:PC w p) (h':PC v q):PC (w+v+1) (p-q):=by rw[sub_eq];exact h.add h'.neg
theorem PC.C {w:Nat} {c:KQ} (h:FB w c):PC w (an c):=by
 obtain⟨A,B,h1,h2,h3,h4,h5,h6⟩:=h;refine⟨B,fun i=>if i=0 then A else 0,h1,fun i=>?_,h5,h6,fun i=>?_⟩
 ·cases i with
  | zero=>dsimp only;rw[if_pos rfl,nV,h2,wI (dy h1)]
  | succ i=>dsimp only;rw[if_neg aw,hY,zero_mul,cK,ou]
 ·dsimp only;split
  ·exact⟨h3,h4⟩
  ·exact⟨by rw[aM.2 rfl];omega,by rw[iI];exact Nat.zero_le _⟩
theorem PC.lin {w:Nat} {c:KQ} (h:FB w c):PC w (ak-an c):=by
 obtain⟨A,B,h1,h2,h3,h4,h5,h6⟩:=h;refine⟨B,fun i=>if i=0 then -A else if i=1 then B else 0,h1,fun i=>?_,h5,h6,fun i=>?_⟩
 ·dsimp only;rw[zZ];by_cases h0:i=0
  ·rw[if_pos h0,if_pos h0,h2,neg_mul,wI (dy h1),pN,CL]
  ·rw[if_neg h0,if_neg h0];by_cases h9:i=1
   ·rw[if_pos h9,if_pos h9,one_mul]
   ·rw[if_neg h9,if_neg h9,zero_mul,cK,ou]
 ·dsimp only;split
  ·exact⟨by rw[kQ];exact h3,by rw[rt];exact h4⟩
  ·split
   ·exact⟨h5,h6⟩
   ·exact⟨by rw[aM.2 rfl];omega,by rw[iI];exact Nat.zero_le _⟩
theorem QR (n:Nat):n1 (nc n:P Int)<=n:=by
 induction n with
 | zero=>exact Nat.le_of_eq iI
 | succ n ih =>
  have h1:n1 (1:P Int)<=1:=by
   rw[ge (n:=1) (by rw[show aa (1:P Int)=1 from jf (R:=Int) aH];exact ay _)];exact ay 1
  have:=ml (nc n:P Int) 1;show n1 (nc n+1:P Int)<=_;omega
theorem Re (n:Nat):em (toQ (nc n:P Int))=(nc n:KQ):=by
 induction n with
 | zero=>exact(congrArg em cK).trans ou
 | succ n ih =>
  show em (toQ (nc n+1:P Int))=nc n+1;rw[kC,uX,ih,oe,Pj]
theorem Qv (n:Nat):aa (nc n:P Int)<=1:=by rw[<-P1];exact cm fun i hi=>by cases i with|zero=>omega|succ i=>rfl
theorem PC.der {w k:Nat} {p:P KQ} (h:PC w p) (hk:aa p<=2 ^ k):PC (w+k) (der p):=by
 obtain⟨B,A,h1,h2,h3,h4,h5⟩:=h;refine⟨B,fun i=>if aa p<=i then 0 else nc (i+1)*A (i+1),h1,fun i=>?_,aw,ax h4 (cU aw),fun i=>?_⟩
 ·dsimp only;rw[kf,mul_assoc,h2];split
  ·rename_i hi;rw[DY h2 (aO (p:=p) (i:=i+1) aw),cK,ou,mul_zero]
  ·rw[ck,pn,Re]
 ·dsimp only;split
  ·exact⟨by rw[aM.2 rfl];omega,by rw[iI];exact Nat.zero_le _⟩
  ·rename_i hi;refine⟨?_,?_⟩
   ·have:=bf (nc (i+1):P Int) (A (i+1));have:=Qv (i+1);have:=(h5 (i+1)).1;omega
   ·refine ax (jh _ _) ?_;rw[Nat.add_comm w k];exact bh (ax (QR _) aw) (h5 _).2
end Alg
namespace Go.AM
open Alg
open Go.Proofs
open Classical
theorem PC.pw {w:Nat} {p:KP} (h:Alg.PC w p):PW w p:=fun i=>h.fb i
theorem wD2 (w v:Nat) {n:Nat} (h:n<=2):wD w v n<=4*w+6*v+3:=by
 refine ax (jt w v h) ?_;simp only[wD];omega
theorem mM {p q:KP} {w v:Nat} (hq0:q≠0) (hp:PW w p) (hq:PW v q) (hn:aa p<=aa q+1) (hb:4*w+6*v+3<=1000) (hs:aa q<=900):Fn Tryz.prog 82 [ku p,ku q] [ku (ab p q)] :=
 KReP hq0 hp hq (ax (wD2 w v aw) hb) aw aw aw
theorem GZ {p q:KP} {w v:Nat} (hq0:q≠0) (hp:PW w p) (hq:PW v q) (hn:aa p<=aa q+1) (hb:4*w+6*v+3<=1000) (hs:aa q<=900):Fn Tryz.prog 81 [ku p,ku q] [ku (qu p q)] :=
 Kw hq0 hp hq (ax (wD2 w v aw) hb) aw aw aw
theorem Ky {a:KP} {w:Nat} (ha:PW w a) (hw:2*w<=1000) (hs:aa a<=900):Fn Tryz.prog 24 [ku a,ku 0] [ku (ai a 0)] :=
 yE (fun x hx=>by rw[jz]at hx;simp at hx) (by rw[nM];exact tv ha hw aw)
theorem Bc {a b:KP} {v:Nat} (hb0:b≠0) (hb:PW v b) (hv:2*v<=1000) (hs:aa b<=900) (hr:ab a b=0) (c1:Fn Tryz.prog 82 [ku a,ku b] [ku (ab a b)]):Fn Tryz.prog 24 [ku a,ku b] [ku (ai a b)] :=
 yE (fun x hx=>by rw[eu1 hb0 hr]at hx;simp at hx;subst hx;exact c1) (by rw[qn hb0,hr,nM];exact tv hb hv aw)
theorem Bb {a b r:KP} {v:Nat} (hb0:b≠0) (hr:ab a b=r) (hr0:r≠0) (h2:ab b r=0) (hw:PW v r) (hv:2*v<=1000) (hs:aa r<=900) (c1:Fn Tryz.prog 82 [ku a,ku b] [ku (ab a b)]) (c2:Fn Tryz.prog 82 [ku b,ku r] [ku (ab b r)]):Fn Tryz.prog 24 [ku a,ku b] [ku (ai a b)] :=
 yE (fun x hx=>by
  rw[eu2 hb0 hr hr0 h2]at hx;simp at hx;rcases hx with rfl|rfl
  ·exact c1
  ·exact c2) (by rw[qn hb0,hr,qn hr0,h2,nM];exact tv hw hv aw)
theorem QB1 (k:Nat) (h:2<=k):QB k 1:=⟨ax (fI (k:=1) aH) aw,ax (fI (k:=1) aH) aw⟩
def T1 (t:Tm):Prop:=dc t.1/\t.1.lt 1099511627776/\t.2=1
theorem T1.tok {t:Tm} (h:T1 t):Tok t:=⟨h.1,h.2.1,by rw[h.2.2];decide,by rw[h.2.2];exact QB1 _ aw⟩
theorem T1.q {t:Tm} (h:T1 t) {k:Nat} (hk:2<=k):QB k t.2:=by rw[h.2.2];exact QB1 _ hk
theorem T1.l {t:Tm} (h:T1 t):t.1.lt 2305843009213693952:=by
 obtain⟨-,h,-⟩:=h;unfold Ex.lt at h ⊢;omega
abbrev ma:List Tm:=[(⟨1,0,0,0⟩,1)]
abbrev mb:List Tm:=[(⟨0,1,0,0⟩,1)]
abbrev mbb:List Tm:=[(⟨0,2,0,0⟩,1)]
abbrev mabb:List Tm:=[(⟨1,2,0,0⟩,1)]
abbrev mab:List Tm:=[(⟨1,1,0,0⟩,1)]
abbrev mab1:List Tm:=[(⟨1,1,0,0⟩,1),(e0,1)]
abbrev mL:List Tm:=[(⟨1,2,0,0⟩,1),(⟨0,1,0,0⟩,1)]
theorem o9 (a b:Nat) (ha:a<=5) (hb:b<=5):T1 (⟨a,b,0,0⟩,1):=⟨by simp[dc],by simp[Ex.lt];omega,rfl⟩
theorem qS {L:List Tm} (h:∃ l:List (Nat×Nat),L=l.map (fun p=>((⟨p.1,p.2,0,0⟩:Ex),(1:Rat)))/\∀ p∈l,p.1<=5/\p.2<=5):∀ t∈L,T1 t:=by
 obtain⟨l,rfl,h⟩:=h;intro t ht;obtain⟨p,hp,rfl⟩:=List.mem_map.1 ht;exact o9 _ _ (h p hp).1 (h p hp).2
theorem QT (t u:Tm) (hu:u.2=1):ur [t] [u]=[(t.1.add u.1,t.2)]:=by
 simp only[ur,List.foldl_cons,List.foldl_nil,hZ,fB,nE,hu,List.map_cons,List.map_nil];rw[if_neg aH,show t.2*(1:Rat)=t.2 from Rat.mul_one _]
theorem NY (t u:Tm) (ht:T1 t) (hu:T1 u):Fn Tryz.prog 57 [iM [t],iM [u]] [iM [(t.1.add u.1,1)]]:=by
 have:=A0 [t] [u] au au (fun x hx=>by simp at hx;subst hx;exact ht.q aw) (fun x hx=>by simp at hx;subst hx;exact hu.q aw) (fun x hx=>by simp at hx;subst hx;exact ht.l) (fun x hx=>by simp at hx;subst hx;exact hu.l)
  (fun i hi=>by
   obtain rfl:i=0:=by simp at hi;omega
   refine⟨fun x hx=>by simp[ur]at hx,fun x hx=>?_,by simp[ur]⟩;simp only[List.getElem_cons_zero,fB,nE,hu.2.2,List.map_cons,List.map_nil]at hx;rw[if_neg aH]at hx;simp at hx;subst hx;rw[ht.2.2];exact QB1 _ aw)
 rwa [QT _ _ hu.2.2,ht.2.2]at this
theorem Qz:Fn Tryz.prog 57 [iM mb,iM mb] [iM mbb]:=NY _ _ (o9 0 1 aw aw) (o9 0 1 aw aw)
theorem Nx:Fn Tryz.prog 57 [iM ma,iM mbb] [iM mabb]:=NY _ _ (o9 1 0 aw aw) (o9 0 2 aw aw)
theorem Rr:gw mabb mb=mL:=by
 rw[jN,if_pos aH,hZ]
theorem sML:Fn Tryz.prog 56 [iM mabb,iM mb] [iM mL]:=by
 have:=qD mabb mb au (fun x hx=>by simp at hx;subst hx;exact QB1 _ aw) (fun x hx=>by simp at hx;subst hx;exact QB1 _ aw);rwa [Rr]at this
abbrev cs3:List F2:=[([],one1),(one1,one1),(ma,one1)]
theorem QC:Fn Tryz.prog 43 [iM mL,iN 1] [fl cs3]:=by
 have h:=xe mL 1 aw au (fun t ht=>by
  simp at ht;rcases ht with rfl|rfl
  ·exact⟨aH,aH⟩
  ·exact⟨aH,aH⟩) aH au
 rw[show qq mL 1=[[],one1,ma]by decide +kernel]at h;exact Nb (v:=1) au h
theorem I8 (n:PQ):kr (Alg.em n)=fr2 (U n,one1):=by
 obtain⟨h1,h2⟩:=IH n;rw[kr,h1,h2,wX];rfl
theorem D9:kr 0=fr2 ([],one1):=by
 have:=I8 0;rwa [cq]at this
theorem U_Xm:U ak=ma:=AT 1 aH
noncomputable abbrev xK:KQ:=Alg.em ak
theorem Pq:fl cs3=kl [0,1,xK]:=by
 have e1:kr 1=fr2 (one1,one1):=by
  have:=I8 1;rwa [wX]at this
 have e2:kr xK=fr2 (ma,one1):=by
  have:=I8 ak;rwa [U_Xm]at this
 show IV.c (.lst _)=IV.c (.lst _);simp only[List.map_cons,List.map_nil,D9,e1,e2]
theorem NZ (a:List Tm) (u:Tm) (R:List Tm) (ha:∀ t∈a,T1 t) (hu:T1 u) (hl:a.length<=2) (hm:Ge a [u]=R) (hq:∀ i<a.length,∀ e q,(e,q)∈sumM (a.take i) [u] []->q=1):Fn Tryz.prog 111 [iM a,iM [u]] [iM R]:=by
 have:=yC a [u] aw au (fun t ht=>(ha t ht).l) (fun t ht=>by simp at ht;subst ht;exact hu.l) (fun t ht=>(ha t ht).q aw) (fun t ht=>by simp at ht;subst ht;exact hu.q aw)
  (by
   intro i j hi hj;have hj':j<1:=hj;obtain rfl:j=0:=aw;refine⟨?_,fun e q hq'=>?_⟩
   ·show QB _ (a[i].2*u.2);rw[(ha _ (List.getElem_mem hi)).2.2,hu.2.2,show(1:Rat)*1=1 from Rat.mul_one 1];exact QB1 8589934592 aw
   ·rw[hq i hi e q hq'];exact QB1 _ aw)
 rwa [hm]at this
theorem same1:Fn Tryz.prog 138 [iM one1,iM one1] [iB true]:=by
 have:=Bi one1 one1 au (fun t ht=>by simp at ht;subst ht;exact QB1 _ aw) (fun t ht=>by simp at ht;subst ht;exact QB1 _ aw);rwa [aF rfl]at this
theorem mul11:Fn Tryz.prog 111 [iM one1,iM one1] [iM one1]:=NZ one1 (e0,1) one1 (qS ⟨[(0,0)],rfl,au⟩) (o9 0 0 aw aw) au aE (fun i hi e q h=>by
 obtain rfl:i=0:=by simp at hi;omega
 simp[sumM]at h)
theorem KL (a:List Tm) (u:Tm) (R:List Tm) (ha:∀ t∈a,T1 t) (hu:T1 u) (hl:a.length<=2) (hm:Ge a [u]=R) (hq:∀ i<a.length,∀ e q,(e,q)∈sumM (a.take i) [u] []->q=1) (hR:∀ t∈R,T1 t) (lR:R.length<=2) :
  Fn Tryz.prog 65 [iF a one1,iF [u] one1] [iF R one1]:=EY (NZ a u R ha hu hl hm hq) mul11 (Bg R aw fun t ht=>(hR t ht).tok)
theorem KM (a b R:List Tm) (ha:∀ t∈a,T1 t) (hb:∀ t∈b,T1 t) (hla:a.length<=2) (hlb:b.length<=2) (hm:gw a b=R) (hR:∀ t∈R,T1 t) (lR:R.length<=2):Fn Tryz.prog 64 [iF a one1,iF b one1] [iF R one1]:=by
 have h:=yD a b aw (fun t ht=>(ha t ht).q aw) (fun t ht=>(hb t ht).q aw);rw[hm]at h;exact EZ (qO same1 h (Bg R aw fun t ht=>(hR t ht).tok)) ⟨_,_,rfl⟩ ⟨_,_,rfl⟩ ⟨_,_,rfl⟩
def oT:Nat->F2
 | 0=>([],one1)
 | 1=>(ma,one1)
 | 2=>(mab1,one1)
 | _=>(mL,one1)
theorem sTo:Fn Tryz.prog 48 [fl cs3,iN 1] [iF mL one1]:=by
 have ta:∀ t∈ma,T1 t:=qS ⟨[(1,0)],rfl,au⟩;have t1:∀ t∈one1,T1 t:=qS ⟨[(0,0)],rfl,au⟩;have tab:∀ t∈mab,T1 t:=qS ⟨[(1,1)],rfl,au⟩;have tab1:∀ t∈mab1,T1 t:=qS ⟨[(1,1),(0,0)],rfl,au⟩;have tL:∀ t∈mL,T1 t:=qS ⟨[(1,2),(0,1)],rfl,au⟩;have t0:∀ t∈([]:List Tm),T1 t:=au;have tb:T1 (⟨0,1,0,0⟩,1):=o9 0 1 aw aw;refine Ry cs3 1 aw au oT ?_ fun k hk=>?_
 ·have:=cB 0 aH;have e:IV.g (fr2 (oT 0))=iK (kn 0):=by
   rw[fS];show IV.g (fr2 ([],one1))=IV.g (kr 0);rw[D9]
  rw[e];exact this
 ·have hk3:k<3:=hk;obtain rfl|rfl|rfl:k=0\/k=1\/k=2:=aw
  ·exact⟨([],one1),KL [] _ [] t0 tb au aE (fun i hi=>absurd hi au) t0 au,KM [] ma ma t0 ta au au (hZ _) ta au⟩
  ·refine⟨(mab,one1),KL ma _ mab ta tb au aE (fun i hi e q h=>?_) tab au,KM mab one1 mab1 tab t1 au au ?_ tab1 au⟩
   ·obtain rfl:i=0:=by simp at hi;omega
    simp[sumM]at h
   ·rw[jN,if_pos aH,hZ]
  ·refine⟨(mL,one1),KL mab1 _ mL tab1 tb au aE (fun i hi e q h=>?_) tL au,KM mL [] mL tL t0 au au (jM _) tL au⟩;have hi':i<2:=hi;obtain rfl|rfl:i=0\/i=1:=aw
   ·simp[sumM]at h
   ·simp[sumM,rowM,addT]at h;exact h.2
theorem Qy:Fn Tryz.prog 49 [iM mL] [iF mL one1]:=by
 have:=w7 mL;rwa [wX]at this
theorem OI:Fn Tryz.prog 41 [iF mL one1,iF mL one1] [iB true]:=by
 have tq:∀ L:List Tm,(L=mL\/L=one1)->∀ t∈L,QB 17179869184 t.2:=fun L hL t ht=>by
  rcases hL with rfl|rfl<;>simp at ht
  ·rcases ht with rfl|rfl<;>exact QB1 _ aw
  ·subst ht;exact QB1 _ aw
 have e1:=rO mL mL au (tq _ (.inl rfl)) (tq _ (.inl rfl));have e2:=rO one1 one1 au (tq _ (.inr rfl)) (tq _ (.inr rfl));rw[aF rfl]at e1 e2;have h87:Fn Tryz.prog 87 [iF mL one1,iF mL one1] [iB true]:=by
  refine aJ (fn:=Tryz.f87) ?_;simp -dsimp only[go_sem,Int.reduceToNat,Int.reduceLE,aC];refine ao e1 rfl ?_;simp -dsimp only[go_sem,Int.reduceToNat,Int.reduceLE,aC];refine ao e2 rfl ?_;simp -dsimp only[go_sem]
 refine aJ (fn:=Tryz.f41) ?_;simp -dsimp only[go_sem];refine ao h87 rfl ?_;simp -dsimp only[go_sem]
end Go.AM
namespace Alg
open Classical
section
variable {F:Type} [CR F] [Fd F]
theorem xT (a b:F):(ak-an a)-(ak-an b)=an (b-a):=by rw[N0];exact ring [ak,an a,an b]
theorem HQ {a b:F} (h:a≠b):b-a≠0:=fun e=>h (by
 have:=congrArg (· + a) e;simp only[sub_eq,zero_add]at this;rw[add_assoc,neg_add,add_zero]at this;exact this.symm)
theorem div4 {t:F} (ht:t*ic 4=1) (f g:P F):f*g=an t*(f+g)*(f+g)+(-(an t*(f-g)*(f-g))):=by
 have e:an t*(ic 4:P F)=1:=by rw[<-Ni,<-bC,ht,bP]
 have h:f*g*(an t*ic 4)=an t*(f+g)*(f+g)+(-(an t*(f-g)*(f-g))):=ring [f,g,an t];rwa [e,mul_one]at h
theorem div9 {t:F} (ht:t*ic 9=1) (f g:P F):f*g=an t*(f+f+g)*(g+g+f)+(-(an t*ic 2*(f-g)*(f-g))):=by
 have e:an t*(ic 9:P F)=1:=by rw[<-Ni,<-bC,ht,bP]
 have h:f*g*(an t*ic 9)=an t*(f+f+g)*(g+g+f)+(-(an t*ic 2*(f-g)*(f-g))):=ring [f,g,an t];rwa [e,mul_one]at h
theorem O5 {t a b:F} : -(an t*((ak-an a)-(ak-an b))*((ak-an a)-(ak-an b)))=an (-(t*(b-a)*(b-a))):=by
 rw[xT,kM,bC,bC]
theorem O4 {t a b:F} : -(an t*ic 2*((ak-an a)-(ak-an b))*((ak-an a)-(ak-an b)))=an (-(t*ic 2*(b-a)*(b-a))):=by
 rw[xT,kM,bC,bC,bC,Ni]
theorem xU (c:F):(ak-an c).c 1=1:=by rw[zZ,if_neg aw,if_pos rfl]
theorem tP (a b:F) (h2:(ic 2:F)≠0):aa ((ak-an a)+(ak-an b))=2:=jU (fun i hi=>by rw[ce,aO (by rw[fg];omega),aO (by rw[fg];omega),add_zero]) fun _=>by
 show((ak-an a)+(ak-an b)).c 1≠0;rw[ce,xU,xU];intro e;refine h2 ?_;rw[<-e];exact ring []
theorem nl (a b:F) (h3:(ic 3:F)≠0):aa ((ak-an b)+(ak-an b)+(ak-an a))=2:=jU (fun i hi=>by rw[ce,ce,aO (by rw[fg];omega),aO (by rw[fg];omega),add_zero,add_zero]) fun _=>by
 show((ak-an b)+(ak-an b)+(ak-an a)).c 1≠0;rw[ce,ce,xU,xU];intro e;refine h3 ?_;rw[<-e];exact ring []
theorem re11 {t a b:F} (ht:t*ic 4=1) (h2:(ic 2:F)≠0):ab ((ak-an a)*(ak-an b)) ((ak-an a)+(ak-an b))=an (-(t*(b-a)*(b-a))):=by
 refine oO (q:=an t*((ak-an a)+(ak-an b))) (by rw[<-O5];exact div4 ht _ _) ?_;rw[tP a b h2];exact Nat.lt_of_le_of_lt (cm fun i hi=>by cases i with|zero=>exact absurd hi aw|succ i=>rfl:_<=1) aw
theorem Q4 {t a b:F} (h:a≠b) (ht:t≠0) : -(t*(b-a)*(b-a))≠0:=fun e=>by
 have h1:=HQ h;have h2:t*(b-a)*(b-a)=0:=by
  have:=congrArg (fun x => -x) e;rwa [neg_neg,gS]at this
 exact a6 (a6 ht h1) h1 h2
end
end Alg
namespace Go.AM
open Alg
open Go.Proofs
open Classical
theorem fU:xK≠0:=Er fun h=>by
 have:=congrArg aa h;rw[aM.2 rfl,show(ak:PQ)=mon 1 1 from rfl,nj 1 aH]at this;omega
theorem eJ:FB 1 xK:=by
 refine⟨ak,1,d9 (R:=Int) aH,?_,?_,?_,?_,?_⟩
 ·rw[oe];show xK=Alg.em (toQ ak);rw[show(toQ ak:PQ)=ak from og 1 1]
 ·rw[show(ak:Alg.P Int)=mon 1 1 from rfl,nj 1 aH];omega
 ·rw[ge (n:=2) (by rw[show(ak:Alg.P Int)=mon 1 1 from rfl,nj 1 aH];omega)];exact(by decide:1<=2)
 ·rw[show aa (1:Alg.P Int)=1 from jf (R:=Int) aH];omega
 ·rw[ge (n:=1) (by rw[show aa (1:Alg.P Int)=1 from jf (R:=Int) aH];exact ay _)];exact(by decide:1<=2)
theorem ww {l:List KQ} (h:∀ h:l.length-1<l.length,l[l.length-1]≠0):kl l=ku (ac l):=by
 rw[ku,<-Ey (l:=l) (p:=ac l) (fun i hi=>by rw[uk];simp[List.getD,hi]) (fun i hi=>by rw[uk];simp[List.getD,List.getElem?_eq_none hi]) h]
theorem pl2 (a b:KQ):ac [a,b]=an a+an b*ak:=Alg.P.ext fun i=>by
 rw[uk,ce,bS,X_c]
 match i with
 | 0=>rw[if_neg aw,mul_zero,add_zero];rfl
 | 1=>rw[if_pos rfl,mul_one,hY,zero_add];rfl
 | i+2=>rw[if_neg aw,mul_zero,hY,zero_add];rfl
theorem pl1 (a:KQ):ac [a]=an a:=Alg.P.ext fun i=>by
 match i with
 | 0=>rfl
 | i+1=>rw[hY];rfl
theorem vu:PW 0 (ak:KP):=fun i=>by
 rw[X_c];split
 ·exact gG (z:=1) aH
 ·exact dY 0
theorem qF {w:Nat} {c:KQ} (h:FB w c):PW w (an c):=fun i=>by
 cases i with
 | zero=>exact h
 | succ i=>exact dY w
theorem qG:PW 0 (1:KP):=qF (gG (z:=1) aH)
theorem kF:aa (ak:KP)=2:=nj 1 one_ne
theorem I6:kl [kn 0,kn 1]=ku ak:=by
 rw[ww (fun _=>wv aH),pl2,fS,d7,cC,zero_add,bP,one_mul]
noncomputable abbrev yK:KQ:=Alg.inv xK
theorem xy:(an xK:KP)*an yK=1:=by rw[<-bC,mul_inv fU,bP]
theorem mY:FB 1 yK:=eJ.inv fU
theorem yU:yK≠0:=fC fU
noncomputable abbrev dQ:KP:=an (-(yK*yK))+an yK*ak
theorem Lh:(ak*ak:KP)=dQ*(an 1+an xK*ak)+an (yK*yK):=by
 have h:dQ*(an 1+an xK*ak)+an (yK*yK)=(ak*ak:KP)-(1-an xK*an yK)*(ak*ak-an yK*ak):=by
  rw[dQ,kM,bC,bP];exact ring [ak,an xK,an yK]
 rw[h,xy,sub_self,zero_mul,sub_zero]
theorem DD:aa (an 1+an xK*ak:KP)=2:=jU (fun i hi=>by
 rw[ce,bS,X_c,if_neg aw,mul_zero,add_zero];cases i with
 | zero=>omega
 | succ i=>rfl) fun _=>by
 show(an 1+an xK*ak:KP).c 1≠0;rw[ce,bS,X_c,if_pos rfl,mul_one,hY,zero_add];exact fU
theorem gN (c:KQ):aa (an c:KP)<=1:=cm fun i hi=>by cases i with|zero=>omega|succ i=>rfl
theorem Kn {c:KQ} {w:Nat} (h:FB w c):PW w (an c*ak:KP):=by
 have:=vu.scale h;rwa [mul_comm,Nat.zero_add]at this
theorem RD:PW 2 (an 1+an xK*ak:KP):=(qF (gG (z:=1) (w:=0) aH)).add (Kn eJ)
theorem OJ:Fn Tryz.prog 14 [ku ak,ku ak] [ku (ak*ak)]:=Ba vu vu (by rw[kF];omega) (by rw[kF];omega) (by rw[kF];omega) aw aw
theorem sDiv:Fn Tryz.prog 18 [ku (ak*ak),ku (an 1+an xK*ak)] [ku dQ,ku (an (yK*yK)),iN 0]:=by
 have hq0:(an 1+an xK*ak:KP)≠0:=fun h=>by have:=DD;rw[h,aM.2 rfl]at this;omega
 have hsz:aa (ak*ak:KP)<=3:=by have:=bf (ak:KP) ak;rw[kF]at this;omega
 have h:=vx hq0 (QS vu vu) RD (by
  rw[kF,DD];exact ax (wD2 _ _ aw) aw) aw aw (by rw[DD];omega)
 obtain⟨e1,e2⟩:=md Lh (by rw[DD];have:=gN (yK*yK);omega);rwa [e1,e2]at h
noncomputable abbrev lX:KP:=ak-an xK
theorem n7 {w:Nat} {c:KQ} (h:FB w c):PW w (ak-an c:KP):=PC.pw (Alg.PC.lin h)
theorem OZ:kl [-xK,kn 1]=ku lX:=by
 rw[ww (fun _=>wv aH),pl2,d7,kM,bP,one_mul];show ku _=ku _;rw[show -an xK+ak=(lX:KP)from ring [an xK,ak]]
theorem NG:kl [kn 1]=ku 1:=D8.symm
theorem reX:ab ak lX=an xK:=oO (q:=1) (ring [ak,an xK]) (by rw[fg];have:=gN xK;omega)
theorem QA:Fn Tryz.prog 24 [ku ak,ku lX] [ku (ai ak lX)] :=
 Bb (jY _) reX (d9 fU) (Alg.ft fU) (qF eJ) aw (by have:=gN xK;omega) (mM (jY _) vu (n7 eJ) (by rw[kF,fg];omega) aw (by rw[fg];omega))
  (mM (d9 fU) (n7 eJ) (qF eJ) (by rw[fg,jf fU];omega) aw (by have:=gN xK;omega))
theorem gdX:ai ak lX=1:=by rw[gd2 (jY _) reX (d9 fU) (Alg.ft fU),Gf fU]
theorem tQ {c:KQ} (h:c≠0):aa (an c:KP)=1:=jf h
theorem Lg:Fn Tryz.prog 28 [ku ak,ku lX,ku 1] [ku (an yK),ku (-an yK),iN 0]:=by
 have h1:qu 1 (ab ak lX)=an yK:=by
  rw[reX];exact me (d9 fU) (by rw[mul_comm,xy])
 have szl:aa lX=2:=fg _;have s1:aa (1:KP)=1:=cY;have e1:(1:KP)*an yK=an yK:=one_mul _;have hre:ab (1*an yK) lX=an yK:=oO (q:=0) (by rw[zero_mul,zero_add,e1]) (by rw[szl];have:=gN yK;omega);have wy:PW 1 (an yK:KP):=qF mY;have wyX:PW 2 (an yK*ak:KP):=(Kn mY).mono aw;have hsm:=bf (an yK:KP) ak;rw[kF]at hsm;have sy:=gN yK;have hq:qu (1-an yK*ak) lX = -an yK:=me (jY _) (by
  have : -an yK*lX=an xK*an yK-an yK*ak:=ring [ak,an xK,an yK];rw[this,xy])
 refine Dm QA (by rw[gdX,cY]) szl (by rw[reX,tQ fU]) (mM (jY _) vu (n7 eJ) (by rw[kF,szl];omega) aw (by rw[szl];omega)) ?_ ?_ ?_ ?_ ?_ ?_
 ·rw[reX];exact GZ (d9 fU) qG (qF eJ) (by rw[s1,tQ fU];omega) aw (by rw[tQ fU];omega)
 ·rw[h1];exact Ba qG wy (by rw[s1];omega) (by rw[s1];omega) aw aw aw
 ·rw[h1];have:=mM (p:=1*an yK) (jY xK) (by rw[e1];exact wy) (n7 eJ) (by rw[e1,fg];omega) aw (by rw[fg];omega);rwa [hre]at this
 ·exact Ba wy vu (ax (Nat.mul_le_mul_right _ sy) aw) aw (by rw[kF];omega) aw aw
 ·exact EW qG wyX aw (by rw[s1];omega) aw
 ·have:=GZ (p:=1-an yK*ak) (jY xK) (qG.sub wyX) (n7 eJ) (by
   rw[fg];have:=gB (p:=(1:KP)) (q:=an yK*ak) (n:=2) (by rw[s1];omega) aw;omega) aw (by rw[fg];omega)
  rwa [hq]at this
theorem Lf:Fn Tryz.prog 28 [ku ak,ku ak,ku 1] [ku 0,ku 0,iN 60]:=by
 have hX:(ak:KP)≠0:=fun h=>by have:=kF;rw[h,aM.2 rfl]at this;omega
 have hr:ab (ak:KP) ak=0:=xF (q:=1) hX (one_mul _).symm;refine GY (Bc hX vu aw (by rw[kF];omega) hr (mM hX vu vu aw aw (by rw[kF];omega))) ?_;rw[gd1 hX hr,NE,kF];omega
noncomputable abbrev sq1:KP:=1+ak*ak
theorem OH:kl [kn 1,kn 0,kn 1]=ku sq1:=by
 rw[ww (fun _=>wv aH)];show ku _=ku _;congr 1;have:ac [kn 1,kn 0,kn 1]=(1+ak*ak:KP):=Alg.P.ext fun i=>by
  rw[uk,ce,show(ak*ak:KP)=mon 1 1*mon 1 1 from rfl,dV,bY,mul_one,fS,d7]
  match i with
  | 0=>rw[if_neg aw,add_zero];rfl
  | 1=>rw[if_neg aw,add_zero];rfl
  | 2=>rw[if_pos rfl];exact(zero_add _).symm
  | i+3=>rw[if_neg aw,add_zero];rfl
 rw[this]
theorem DG (i:Nat):sq1.c i=if i=0\/i=2 then 1 else 0:=by
 rw[ce,show(ak*ak:KP)=mon 1 1*mon 1 1 from rfl,dV,bY,mul_one]
 match i with
 | 0=>rw[if_neg aw,add_zero];rfl
 | 1=>rw[if_neg aw,add_zero];rfl
 | 2=>rw[if_pos rfl];exact zero_add _
 | i+3=>rw[if_neg aw,add_zero];rfl
theorem je:aa sq1=3:=jU (fun i hi=>by rw[DG,if_neg aw]) fun _=>by rw[DG,if_pos aw];exact one_ne
theorem xV:lc sq1=1:=by rw[lc,je,DG,if_pos aw]
theorem Km:PW 0 sq1:=fun i=>by
 rw[DG];split
 ·exact gG (z:=1) aH
 ·exact dY 0
noncomputable abbrev kR:KQ:=1+xK*xK
theorem FB1 (w:Nat):FB w 1:=(gG (z:=1) (w:=0) aH).mono (Nat.zero_le w)
theorem uD:FB 4 kR:=((FB1 0).add (eJ.mul eJ)).mono aw
theorem wz:kR≠0:=fun h=>by
 have h1:(Alg.em (1+ak*ak):KQ)=Alg.em 0:=by
  rw[uX,pn];exact h
 have h2:=congrArg (fun p=>p.c 0) (ya h1);rw[show(ak*ak:PQ)=mon 1 1*mon 1 1 from rfl,dV]at h2;exact absurd h2 aE
theorem OO:ab lX sq1=lX:=oO (q:=0) (by rw[zero_mul,zero_add]) (by rw[fg,je];omega)
theorem ON:ab sq1 lX=an kR:=oO (q:=ak+an xK) (by
 rw[xf,bC,bP];exact ring [ak,an xK]) (by rw[fg];have:=gN kR;omega)
theorem sRes:Fn Tryz.prog 35 [ku lX,ku sq1] [iK (kz 1+xK*xK)]:=by
 have sl:aa lX=2:=fg _;have ll:lc lX=1:=Cp _;have hq0:sq1≠0:=fun h=>by have:=je;rw[h,aM.2 rfl]at this;omega
 have he:eu lX sq1=[(lX,sq1),(sq1,lX),(lX,an kR)]:=eu3 hq0 OO (jY _) ON (d9 wz) (Alg.ft wz);have sk:aa (an kR:KP)=1:=tQ wz;have pw1:∀ n,Alg.pw (1:KQ) n=1:=fun n=>by
  induction n with
  | zero=>rfl
  | succ n ih=>simp only[Alg.pw,ih,mul_one]
 have o1:mU lX sq1 1=1:=by
  rw[rk (x:=(lX,sq1)) (by rw[he];rfl)];simp only[xV,pw1,sgR,sl,je];rw[if_neg aw];exact mul_one _
 have o2:mU lX sq1 2=1:=by
  rw[rk (x:=(sq1,lX)) (by rw[he];rfl)];simp only[ll,pw1,sgR,sl,je,o1];rw[if_neg aw];exact mul_one _
 have lk:lc (an kR:KP)=kR:=mV _;have pk:Alg.pw kR 1=kR:=by simp only[Alg.pw,one_mul,mul_one]
 have f1:FW (1:KQ):=FB1 1000;have fk:FW kR:=uD.mono aw;have h:=M7 (a:=lX) (b:=sq1) (m:=2) (z:=(lX,an kR)) (jY _) hq0 aw (by rw[je];omega) (by rw[he];rfl) (by rw[he];rfl) fun k x hx=>by
  rw[he]at hx
  match k,hx with
  | 0,hx =>
   simp at hx;subst hx;exact⟨mM hq0 (n7 eJ) Km (by rw[sl,je];omega) aw (by rw[je];omega),by dsimp only;omega,by rw[je];omega,by rw[xV];exact f1,f1,by rw[xV,pw1];exact f1,by rw[xV,pw1];exact(FB1 0).mul (FB1 1000) |>.mono aw,fun h=>absurd h (by rw[je];omega)⟩
  | 1,hx =>
   simp at hx;subst hx;exact⟨mM (jY _) Km (n7 eJ) (by rw[sl,je];omega) aw (by rw[sl];omega),by rw[je];omega,by dsimp only;omega,by rw[ll];exact f1,by rw[o1];exact f1,by rw[ll,pw1];exact f1,by rw[ll,pw1,o1];exact(FB1 0).mul (FB1 1000) |>.mono aw,fun h=>absurd h (by rw[sl];omega)⟩
  | 2,hx =>
   simp at hx;subst hx;exact⟨mM (d9 wz) (n7 eJ) (qF uD) (by rw[sl,sk];omega) aw (by rw[sk];omega),by dsimp only;omega,by rw[sk];omega,by rw[lk];exact fk,by rw[o2];exact f1,by
    rw[lk,Alg.ft wz,sl,aM.2 rfl];simp only[Alg.pw,one_mul];exact(uD.mul uD).mono aw,by
    rw[lk,Alg.ft wz,sl,aM.2 rfl,o2];simp only[Alg.pw,one_mul];exact(uD.mul uD).mono aw,fun _=>by
    rw[lk,sl,o2];show FW (Alg.pw kR 1)/\FW (1*Alg.pw kR 1);rw[pk,one_mul];exact⟨fk,fk⟩⟩
  | n+3,hx=>simp at hx
 rw[FT,if_pos sk,o2,lk,sl]at h;rw[show Alg.pw kR (2-1)=kR from pk,one_mul]at h;exact h
theorem MT {p P D G Q1 Q2:KP} {m w wp wg wd:Nat} {out:List (KP×Nat)} (hp2:2<=aa p) (hs:aa p<=5) (hm:m<=1000) (wp0:PW wp p) (hwp:2*wp<=1000) (hP:mn p=P) (wP:PW w P) (hw:w<=990) (hD:der P=D) (wD0:PW wd D) (hG:ai P D=G)
  (cG:Fn Tryz.prog 24 [ku P,ku D] [ku (ai P D)]) (wG:PW wg G) (hwg:wg<=1000) (hG0:G≠0) (e1:P=Q1*G) (e2:D=Q2*G) (b1:wD w wg (aa P+1-aa G)<=1000) (b2:wD wd wg (aa D+1-aa G)<=1000) (hsG:aa G<=900)
  (hR:SqR m 1 Q1 Q2 out):Fn Tryz.prog 31 [ku p] [.c (.lst (out.map sqr))]:=by
 have sP:aa P=aa p:=by rw[<-hP,NE]
 have sD:aa D<=aa P-1:=by rw[<-hD];exact yd P
 have q1:=me hG0 e1;have q2:=me hG0 e2;subst hP hD hG;refine Dk hp2 hm (tv wp0 hwp aw) (yI wP aw aw) cG (Kw hG0 wP wG b1 hwg aw aw) (Kw hG0 wD0 wG b2 hwg aw aw) ?_;rw[q1,q2];exact hR
theorem yt {b:KP} {n w:Nat} (wb:PW w b) (hw:24*w+7<=1000) (hl:lc b=1) (hs:2<=aa b) (hs':aa b<=5):SqR 1 n b (der b) [(b,n)]:=by
 have hb0:b≠0:=fun h=>by rw[h,aM.2 rfl]at hs;omega
 have e0:der b-der b=0:=sub_self _;have eg:ai b (der b-der b)=b:=by rw[e0,ot,lz hl]
 have wd:=JF wb aw;have sd:=yd b;have q1:qu b b=1:=me hb0 (one_mul _).symm;have q2:qu 0 b=0:=me hb0 (zero_mul _).symm;have w0:PW 0 (0:KP):=fun i=>dY 0;have s0:aa (0:KP)=0:=aM.2 rfl;have step:=SqR.step (m:=0) (n:=n) (b:=b) (c:=der b) (out:=[]) aw (yI wb aw aw) (EW wd wd aw aw aw) (by rw[e0];exact Ky wb aw aw)
  (by rw[eg];exact GZ hb0 wb wb aw aw aw) (by rw[eg,e0];exact GZ hb0 w0 wb aw aw aw) (by rw[eg,e0,q1,q2];exact SqR.stop (by rw[cY];omega))
 rw[eg,if_pos aw]at step;exact step
theorem J6 {b c d:KP} {m n w v:Nat} {out:List (KP×Nat)} (wb:PW w b) (wc:PW v c) (hw:w+10+v+1<=1000) (hs:2<=aa b) (hs':aa b<=5) (hsc:aa c<=5) (hd:c-der b=d) {u:Nat} (wd:PW u d) (hu:u<=100) (hw':w<=100) (hg:ai b d=1) (cG:Fn Tryz.prog 24 [ku b,ku d] [ku (ai b d)])
  (hb3:aa b<=3) (hsd:aa d<=2) (hR:SqR m (n+1) b d out):SqR (m+1) n b c out:=by
 have q1:∀ x:KP,qu x 1=x:=fun x=>me f8 (mul_one x).symm;have sd:=yd b;have hq:∀{x:KP} {k:Nat},PW k x->k<=100->aa x<=3->Fn Tryz.prog 81 [ku x,ku 1] [ku (qu x 1)]:=fun{x k} wx hk sx =>
  Kw f8 wx qG (ax (jt _ _ (by rw[cY];omega:_<=3)) (by simp only[wD];omega)) aw aw (by rw[cY];omega)
 have step:=SqR.step (m:=m) (n:=n) (b:=b) (c:=c) (out:=out) aw (yI wb aw aw) (EW wc (JF wb aw) aw aw aw) (by rw[hd];exact cG)
  (by rw[hd,hg];exact hq wb hw' hb3) (by
   rw[hd,hg];exact Kw f8 wd qG (ax (jt _ _ (by rw[cY];omega:_<=2)) (by simp only[wD];omega)) aw aw (by rw[cY];omega)) (by rw[hd,hg,q1,q1];exact hR)
 rw[hd,hg,cY,if_neg aw]at step;exact step
theorem PO {b c d g:KP} {m n w v u k:Nat} {out:List (KP×Nat)} (wb:PW w b) (wc:PW v c) (wd:PW u d) (wg:PW k g) (hw:w+10+v+1<=1000) (hs:2<=aa b) (hs':aa b<=3) (hsc:aa c<=3) (hd:c-der b=d) (hg:ai b d=g) (hsg:aa g=2) (hsd:aa d<=3) {q1 q2:KP}
  (cG:Fn Tryz.prog 24 [ku b,ku d] [ku (ai b d)]) (hb1:4*w+6*k+3<=1000) (hb2:4*u+6*k+3<=1000) (e1:b=q1*g) (e2:d=q2*g) (hR:SqR m (n+1) q1 q2 out):SqR (m+1) n b c ((g,n)::out):=by
 have hg0:g≠0:=fun h=>by rw[h,aM.2 rfl]at hsg;omega
 have h1:=me hg0 e1;have h2:=me hg0 e2;have sd:=yd b;have step:=SqR.step (m:=m) (n:=n) (b:=b) (c:=c) (out:=out) aw (yI wb aw aw) (EW wc (JF wb aw) aw aw aw) (by rw[hd];exact cG)
  (by rw[hd,hg];exact GZ hg0 wb wg aw hb1 aw) (by rw[hd,hg];exact GZ hg0 wd wg aw hb2 aw) (by rw[hd,hg,h1,h2];exact hR)
 rw[hd,hg,if_pos aw]at step;exact step
theorem NI (n:Nat):(ic (n:Int):KQ)=kn (n:Int):=by rw[Jg,Eb]
theorem jp {n:Nat} (h:n≠0):(ic (n:Int):KQ)≠0:=by rw[NI];exact wv aw
theorem Ee {n w:Nat} (h:n<=2 ^ w):FB w (ic (n:Int):KQ):=by rw[NI];exact gG (by simpa using h)
noncomputable abbrev t4:KQ:=Alg.inv (ic 4)
noncomputable abbrev t9:KQ:=Alg.inv (ic 9)
theorem Qt:FB 2 t4:=(Ee (n:=4) aH).inv (jp (n:=4) aH)
theorem Qs:FB 4 t9:=(Ee (n:=9) aH).inv (jp (n:=9) aH)
theorem OF:t4*ic 4=1:=cA (jp (n:=4) aH)
theorem OE:t9*ic 9=1:=cA (jp (n:=9) aH)
section
variable {a b:KQ}
noncomputable abbrev LN (c:KQ):KP:=ak-an c
theorem cO (c:KQ):aa (LN c)=2:=fg c
theorem dv (c:KQ):LN c≠0:=jY c
theorem jo (c:KQ):lc (LN c)=1:=Cp c
theorem gT (c:KQ):der (LN c)=1:=LP c
theorem szm {p q:KP} (hp:p≠0) (hq:q≠0):aa (p*q)=aa p+aa q-1:=dz hp hq
theorem lcm1 {p q:KP} (hp:lc p=1) (hq:lc q=1):lc (p*q)=1:=by rw[gU,hp,hq,one_mul]
theorem jT (p:KP) {c:KQ} (hc:c≠0):aa (p*an c)=aa p:=by rw[mul_comm,bW hc]
theorem sh {p:KP} {c:KQ} (hc:c≠0) (hl:lc p=1):mn (p*an c)=p:=by rw[mul_comm,zU hc,lz hl]
theorem DN {p g q:KP} {c:KQ} (hc:c≠0) (hg:g≠0) (h:p=q*g):ab p (g*an c)=0:=by
 refine xF (q:=q*an (Alg.inv c)) (a6 hg (d9 hc)) ?_;have e:(an c:KP)*an (Alg.inv c)=1:=by rw[<-bC,mul_inv hc,bP]
 have h2:q*an (Alg.inv c)*(g*an c)=q*g*(an c*an (Alg.inv c)):=ring [q,g,an c,an (Alg.inv c)];rw[h2,e,mul_one,h]
noncomputable abbrev k11 (a b:KQ):KQ := -(t4*(b-a)*(b-a))
noncomputable abbrev k21 (a b:KQ):KQ := -(t9*ic 2*(b-a)*(b-a))
theorem rC (h:a≠b):k11 a b≠0:=Q4 h (fC (jp (n:=4) aH))
theorem xZ (h:a≠b):k21 a b≠0:=Q4 h (a6 (fC (jp (n:=9) aH)) (jp (n:=2) aH))
theorem Cv (ha:FB 8 a) (hb:FB 8 b):FB 36 (k11 a b):=((Qt.mul (hb.sub ha)).mul (hb.sub ha)).neg.mono aw
theorem O3 (ha:FB 8 a) (hb:FB 8 b):FB 39 (k21 a b):=(((Qs.mul (Ee (n:=2) (w:=1) aH)).mul (hb.sub ha)).mul (hb.sub ha)).neg.mono aw
theorem d21:der (LN a*LN a*LN b)=LN a*(LN b+LN b+LN a):=by
 rw[oy,oy,gT,gT];exact ring [LN a,LN b]
theorem re21:ab (LN a*LN a*LN b) (LN a*(LN b+LN b+LN a))=LN a*an (k21 a b):=by
 have h3:aa (LN b+LN b+LN a)=2:=nl a b (jp (n:=3) aH);have hn:LN b+LN b+LN a≠0:=fun h=>by rw[h,aM.2 rfl]at h3;omega
 have h9:=div9 OE (LN a) (LN b);rw[O4]at h9;refine oO (q:=an t9*(LN a+LN a+LN b)) ?_ ?_
 ·have e1:LN a*LN a*LN b=LN a*(LN a*LN b):=mul_assoc _ _ _;rw[e1,h9];exact ring [LN a,LN b,an t9,an (k21 a b)]
 ·rw[szm (dv a) hn,h3,cO];have:=bf (LN a) (an (k21 a b));have:=gN (k21 a b);rw[cO]at *
  omega
theorem gd21 (h:a≠b):ai (LN a*LN a*LN b) (LN a*(LN b+LN b+LN a))=LN a:=by
 have h3:aa (LN b+LN b+LN a)=2:=nl a b (jp (n:=3) aH);have hn:LN b+LN b+LN a≠0:=fun h=>by rw[h,aM.2 rfl]at h3;omega
 rw[gd2 (a6 (dv a) hn) re21 (a6 (dv a) (d9 (xZ h))) (DN (xZ h) (dv a) (mul_comm _ _)),sh (xZ h) (jo a)]
theorem jg (ha:FB 8 a):Alg.PC 8 (LN a):=Alg.PC.lin ha
theorem pX (ha:FB 8 a) (hb:FB 8 b):Alg.PC 17 (LN a*LN b):=(jg ha).mul (jg hb) (k:=1) (by rw[cO];decide)
theorem Iq (ha:FB 8 a) (hb:FB 8 b):Alg.PC 27 (LN a*LN a*LN b):=(pX ha ha).mul (jg hb) (k:=2) (by rw[szm (dv a) (dv a),cO];decide)
theorem RA {c:KQ} (hab:a≠b) (ha:FB 8 a) (hb:FB 8 b) (hc0:c≠0) (hc:FB 8 c):Fn Tryz.prog 31 [ku (LN a*LN a*LN b*an c)] [.c (.lst ([(LN b,1),(LN a,2)].map sqr))]:=by
 have na:=dv a;have nb:=dv b;have naa:=a6 na na;have nP:=a6 naa nb;have sa:=cO a;have sb:=cO b;have sP:aa (LN a*LN a*LN b)=4:=by rw[szm naa nb,szm na na,sa,sb]
 have lP:lc (LN a*LN a*LN b)=1:=lcm1 (lcm1 (jo a) (jo a)) (jo b);have h3:aa (LN b+LN b+LN a)=2:=nl a b (jp (n:=3) aH);have n3:LN b+LN b+LN a≠0:=fun h=>by rw[h,aM.2 rfl]at h3;omega
 have sD:aa (LN a*(LN b+LN b+LN a))=3:=by rw[szm na n3,sa,h3]
 have nD:=a6 na n3;have wP:=PC.pw (Iq ha hb);have wDD:PW 29 (LN a*(LN b+LN b+LN a)):=by
  have:=PC.pw ((Iq ha hb).der (k:=2) (by rw[sP];decide));rwa [d21]at this
 have k0:=xZ hab;have wr:PW 47 (LN a*an (k21 a b)):=(PC.pw (jg ha)).scale (O3 ha hb);have nr:=a6 na (d9 k0);have sr:aa (LN a*an (k21 a b))=2:=by rw[jT _ k0,sa]
 have rr:ab (LN a*(LN b+LN b+LN a)) (LN a*an (k21 a b))=0:=DN k0 na (mul_comm _ _);have cG:=Bb nD re21 nr rr wr aw aw (mM nD wP wDD aw aw aw) (mM nr wDD wr aw aw aw);have wa:=PC.pw (jg ha);have wb:=PC.pw (jg hb);have wab:=PC.pw (pX ha hb);have wfg:PW 17 (LN a+LN b):=by
  have:=wa.add wb;exact this
 have dab:der (LN a*LN b)=LN a+LN b:=by
  rw[oy,gT,gT];exact ring [LN a,LN b]
 have wc:PW 35 (LN b+LN b+LN a):=((wb.add wb).add wa).mono aw;refine MT (P:=LN a*LN a*LN b) (D:=LN a*(LN b+LN b+LN a)) (G:=LN a) (Q1:=LN a*LN b) (Q2:=LN b+LN b+LN a) (m:=2) (wp:=35) (w:=27) (wg:=8) (wd:=29) ?_ ?_ aw (wP.scale hc) aw (sh hc0 lP) wP aw d21 wDD (gd21 hab) cG wa aw na (ring [LN a,LN b]) (mul_comm _ _) ?_ ?_ aw ?_
 ·rw[jT _ hc0,sP];omega
 ·rw[jT _ hc0,sP];omega
 ·rw[sP,sa];simp only[wD];omega
 ·rw[sD,sa];simp only[wD];omega
 ·have e0:LN b+LN b+LN a-der (LN a*LN b)=LN b:=by
   rw[dab];exact ring [LN a,LN b]
  have rg:ab (LN a*LN b) (LN b)=0:=xF nb rfl;have eg:ai (LN a*LN b) (LN b)=LN b:=by rw[gd1 nb rg,Ck]
  have last:SqR 1 2 (LN a) 1 [(LN a,2)]:=by
   have:=yt (n:=2) wa aw (jo a) aw aw;rwa [gT]at this
  have sab:aa (LN a*LN b)=3:=by rw[szm na nb,sa,sb]
  exact PO (u:=8) (k:=8) wab wc wb wb aw aw aw aw e0 eg sb aw (Bc nb wb aw aw rg (mM nb wab wb aw aw aw)) aw aw rfl (one_mul _).symm last
end
theorem Q7:kl [kn 1,xK]=ku (an 1+an xK*ak):=by rw[ww (fun _=>fU),pl2,d7]
theorem gC {p:KP} {w:Nat} (h:PW w p) (hw:w<=1000) (hs:aa p<=1000):Fn Tryz.prog 15 [ku p,ku p] [iB true]:=by
 have:=PU h h hw hw hs;rwa [aF rfl]at this
theorem IT (a:KQ):kn (-1)*a = -a:=by
 rw[show kn (-1) = -(1:KQ)from(I9 1).trans (by rw[d7]),neg_mul,one_mul]
theorem Jc:Alg.inv (xK*xK)=yK*yK:=uF _ _
theorem Rl:kl [kn (-1)*Alg.inv (xK*xK),kn 1*yK]=ku dQ:=by
 rw[IT,Jc,d7,one_mul,ww (fun _=>yU),pl2]
theorem Ja {c:KQ} (h:c≠0):kl [c]=ku (an c):=by rw[ww (l:=[c]) (fun _=>h),pl1]
theorem KV:xK≠kn (-1):=fun h=>by
 have h2:=congrArg aa (ya h);rw[show(ak:PQ)=mon 1 1 from rfl,nj 1 aH,jf (R:=Rat) aH]at h2;omega
theorem ux:FB 8 (kn (-1)):=gG aH
theorem tD:FB 8 xK:=eJ.mono aw
theorem O2:kl [kn 1*Alg.inv (xK*xK)]=ku (an (yK*yK)):=by rw[Jc,d7,one_mul,Ja (a6 yU yU)]
theorem Q6:kl [kn 1*yK]=ku (an yK):=by rw[d7,one_mul,Ja yU]
theorem O1:kl [kn (-1)*yK]=ku (-an yK):=by
 have h : -yK≠0:=fun e=>yU (by have:=congrArg (fun x => -x) e;rwa [neg_neg,gS]at this);rw[IT,Ja h,kM]
set_option maxHeartbeats 4000000 in
theorem FN:Fn Tryz.prog 11 [] [iB true]:=by
 have m0:=mJ 0 aH;have m1:=mJ 1 aH;have mm:=mJ (-1) aH;have fx:FW xK:=eJ.mono aw;have f1:FW (kn 1):=FB1 1000;have fm:FW (kn (-1)):=ux.mono aw;have fxx:FW (xK*xK):=(eJ.mul eJ).mono aw;have xx0:xK*xK≠0:=a6 fU fU;have fy:FW yK:=mY.mono aw;have hneg:=AZ fx;have hsq:=vk fx fx fxx;have o1:=qK fm fxx xx0 ((ux.mul ((eJ.mul eJ).inv xx0)).mono aw);have o2:=qK f1 fx fU (((FB1 0).mul mY).mono aw);have o3:=qK f1 fxx xx0 (((FB1 0).mul ((eJ.mul eJ).inv xx0)).mono aw);have o4:=qK fm fx fU ((ux.mul mY).mono aw);have hlx:=qB eJ aw;have hlm:=qB ux aw;have wx:=PC.pw (jg tD);have wxx:=PC.pw (pX tD tD);have wm:=PC.pw (jg ux);have sx:=cO xK;have sm:=cO (kn (-1));have sxx:aa (LN xK*LN xK)=3:=by rw[szm (dv _) (dv _),sx]
 have s21:aa (LN xK*LN xK*LN (kn (-1)))=4:=by rw[szm (a6 (dv _) (dv _)) (dv _),sxx,sm]
 have g1:=Ba wx wx (by rw[sx];omega) aw aw aw aw;have g2:=Ba wxx wm (by rw[sxx];omega) aw aw aw aw;have g3:=M6 (PC.pw (Iq tD ux)) tD aw aw;have g4:=RA (c:=xK) KV tD ux fU tD;have wy:PW 1 (an yK:KP):=qF mY;have wyn:PW 1 (-an yK:KP):=fun i=>(wy i).neg;have wR:PW 2 (an (yK*yK):KP):=qF (mY.mul mY);have wQ:PW 4 dQ:=(qF (mY.mul mY).neg).add (Kn mY);have sy:=gN yK;have syn:aa (-an yK:KP)<=1:=by rw[kQ];exact sy
 have sR:=gN (yK*yK);have sQ:aa dQ<=2:=dh (ax (gN _) aw) (by have:=bf (an yK:KP) ak;rw[kF]at this;omega);have d2:decide (((2:Nat):Int)=2)=true:=rfl;have d1:decide (((1:Nat):Int)=1)=true:=rfl;have d0:decide (((0:Nat):Int)=0)=true:=rfl;have s3:=vj [0,1,xK] [0,1,xK] au (fun f hf=>by
  simp at hf;rcases hf with rfl|rfl|rfl
  ·exact dY _
  ·exact FB1 _
  ·exact fx) (fun f hf=>by
  simp at hf;rcases hf with rfl|rfl|rfl
  ·exact dY _
  ·exact FB1 _
  ·exact fx)
 rw[aF rfl]at s3;have s3':Fn Tryz.prog 15 [fl cs3,kl [kn 0,kn 1,xK]] [iB true]:=by rw[Pq,fS,d7];exact s3
 have fs:FW (xK*xK+kn 1):=((eJ.mul eJ).add (FB1 0)).mono aw;have hadd:=vq fxx f1 fs;have hsame:=GT (f:=kz 1+xK*xK) (g:=xK*xK+kn 1) (uD.mono aw) fs;rw[aF (add_comm _ _)]at hsame;have hTrim:=kq [kn 0] au;have et:dO [kn 0]=[]:=by
  rw[gL,pl1,fS,cC,qt]
 rw[et]at hTrim;have hGcd:=Ky (a:=0) (w:=0) (fun i=>dY 0) aw (by rw[aM.2 rfl];omega);rw[ot,iJ,fF]at hGcd;have hz:=w4 (kn 0);rw[aF fS]at hz;refine aJ (fn:=Tryz.f11) ?_;simp -dsimp only[go_sem];refine aK m1 ?_;simp -dsimp only[go_sem];refine ap 4 [] false true ?_;simp -dsimp only[go_sem];refine aK m0 ?_;simp -dsimp only[go_sem];refine aK (iR 0 aw) ?_;simp -dsimp only[go_sem];refine aK (iR 1 aw) ?_;simp -dsimp only[go_sem];refine aK (iR 1 aw) ?_;simp -dsimp only[go_sem];refine ao Qz rfl ?_;simp -dsimp only[go_sem];refine ao Nx rfl ?_;simp -dsimp only[go_sem];refine aK (iR 1 aw) ?_;simp -dsimp only[go_sem];refine ao sML rfl ?_;simp -dsimp only[go_sem];refine ao QC rfl ?_;simp -dsimp only[go_sem];refine ap 14 [] false true ?_;simp -dsimp only[go_sem];refine aQ (args':=[ku ak,ku ak]) (by rw[<-I6];rfl) OJ ?_;simp -dsimp only[go_sem];refine aK lU ?_;simp -dsimp only[go_sem];refine aQ (args':=[ku (ak*ak),ku (an 1+an xK*ak)]) (by rw[<-Q7];rfl) sDiv ?_;simp -dsimp only[go_sem];refine aQ (args':=[ku ak,ku 0]) (by rw[<-I6,fF];rfl) (yF ak) ?_;simp -dsimp only[go_sem];refine ap 15 [] false true ?_;simp -dsimp only[go_sem];refine aK lU ?_;simp -dsimp only[go_sem];refine ao hneg rfl ?_;simp -dsimp only[go_sem];refine aQ (args':=[ku ak,ku lX,ku 1]) (by rw[<-I6,<-OZ,<-NG];rfl) Lg ?_;simp -dsimp only[go_sem];refine aQ (args':=[ku ak,ku ak,ku 1]) (by rw[<-I6,<-NG];rfl) Lf ?_;simp -dsimp only[go_sem];refine aK lU ?_;simp -dsimp only[go_sem];refine ao hlx rfl ?_;simp -dsimp only[go_sem];refine aK lU ?_;simp -dsimp only[go_sem];refine ao hlx rfl ?_;simp -dsimp only[go_sem];refine ao g1 rfl ?_;simp -dsimp only[go_sem];refine aK mm ?_;simp -dsimp only[go_sem];refine ao hlm rfl ?_;simp -dsimp only[go_sem];refine ao g2 rfl ?_;simp -dsimp only[go_sem];refine aK lU ?_;simp -dsimp only[go_sem];refine ao g3 rfl ?_;simp -dsimp only[go_sem];refine ao g4 rfl ?_;simp -dsimp only[go_sem];refine aK lU ?_;simp -dsimp only[go_sem];refine aK lU ?_;simp -dsimp only[go_sem];refine ao hsq rfl ?_;simp -dsimp only[go_sem];refine ap 26 [] false true ?_;simp -dsimp only[go_sem];refine aK mm ?_;simp -dsimp only[go_sem];refine ao o1 rfl ?_;simp -dsimp only[go_sem];refine aK lU ?_;simp -dsimp only[go_sem];refine ao o2 rfl ?_;simp -dsimp only[go_sem];refine aQ (args':=[ku dQ,ku dQ]) (by rw[<-Rl];rfl) (gC wQ aw aw) ?_;simp -dsimp only[go_sem];refine ao o3 rfl ?_;simp -dsimp only[go_sem];refine aQ (args':=[ku (an (yK*yK)),ku (an (yK*yK))]) (by rw[<-O2];rfl) (gC wR aw aw) ?_;simp -dsimp only[go_sem];refine ap 23 [] false true ?_;simp -dsimp only[go_sem];refine aK lU ?_;simp -dsimp only[go_sem];refine ao o2 rfl ?_;simp -dsimp only[go_sem];refine aQ (args':=[ku (an yK),ku (an yK)]) (by rw[<-Q6];rfl) (gC wy aw aw) ?_;simp -dsimp only[go_sem];refine aK mm ?_;simp -dsimp only[go_sem];refine aK lU ?_;simp -dsimp only[go_sem];refine ao o4 rfl ?_;simp -dsimp only[go_sem];refine aQ (args':=[ku (-an yK),ku (-an yK)]) (by rw[<-O1];rfl) (gC wyn aw aw) ?_;simp -dsimp only[go_sem];refine ap 36 [] false true ?_;simp -dsimp only[go_sem];simp -dsimp only[go_sem,d2,d1,Int.reduceToNat,Int.reduceLE,aC,sqr];refine aK mm ?_;simp -dsimp only[go_sem];refine ao hlm rfl ?_;simp -dsimp only[go_sem];refine ao (gC wm aw aw) rfl ?_;simp -dsimp only[go_sem,Int.reduceToNat,Int.reduceLE,aC,sqr];refine aK lU ?_;simp -dsimp only[go_sem];refine ao hlx rfl ?_;simp -dsimp only[go_sem];refine ao (gC wx aw aw) rfl ?_;simp -dsimp only[go_sem];refine ap 59 [] false true ?_;simp -dsimp only[go_sem];refine aK m0 ?_;simp -dsimp only[go_sem];refine aK lU ?_;simp -dsimp only[go_sem];refine ao s3' rfl ?_;simp -dsimp only[go_sem];refine aK lU ?_;simp -dsimp only[go_sem];refine ao hlx rfl ?_;simp -dsimp only[go_sem];refine aK m0 ?_;simp -dsimp only[go_sem];refine aQ (args':=[ku lX,ku sq1]) (by rw[<-OH];rfl) sRes ?_;simp -dsimp only[go_sem];refine ao hadd rfl ?_;simp -dsimp only[go_sem];refine ao hsame rfl ?_;simp -dsimp only[go_sem];refine ao sTo rfl ?_;simp -dsimp only[go_sem];refine aK (iR 0 aw) ?_;simp -dsimp only[go_sem];refine aK (iR 1 aw) ?_;simp -dsimp only[go_sem];refine aK (iR 1 aw) ?_;simp -dsimp only[go_sem];refine ao Qz rfl ?_;simp -dsimp only[go_sem];refine ao Nx rfl ?_;simp -dsimp only[go_sem];refine aK (iR 1 aw) ?_;simp -dsimp only[go_sem];refine ao sML rfl ?_;simp -dsimp only[go_sem];refine ao Qy rfl ?_;simp -dsimp only[go_sem];refine ao OI rfl ?_;simp -dsimp only[go_sem];refine aK m0 ?_;simp -dsimp only[go_sem];refine ao hTrim rfl ?_;simp -dsimp only[go_sem,d0];refine ao hGcd rfl ?_;simp -dsimp only[go_sem,d0];refine aQ (args':=[ku 0,ku ak]) (by rw[<-I6,fF];rfl) (Ku (.inl rfl)) ?_;simp -dsimp only[go_sem];refine ao hz rfl ?_;simp -dsimp only[go_sem]
theorem DC (x y:KP):aa (x*y)<=aa x+aa y-1:=bf x y
theorem re1 {p q:KP} (h:aa q=1):ab p q=0:=by
 have e:=dS (Nat.le_of_eq h);have h0:q.c 0≠0:=fun e0=>by rw[e0,cC]at e;rw[e,aM.2 rfl]at h;omega
 rw[e];exact Alg.ft h0
theorem JI {r:KP} (h:aa r=1):∃ c,c≠0/\r=an c:=by
 have e:=dS (Nat.le_of_eq h);exact⟨_,fun e0=>by rw[e0,cC]at e;rw[e,aM.2 rfl]at h;omega,e⟩
theorem re_f {p q f:KP} (hq:q≠0) (hf:f≠0):ab (p*f) (q*f)=ab p q*f:=by
 obtain⟨h1,h2⟩:=qure (a:=p) hq;refine oO (q:=qu p q) ?_ ?_
 ·conv=>lhs;rw[h1]
  exact ring [qu p q,ab p q,q,f]
 ·by_cases hr:ab p q=0
  ·rw[hr,zero_mul,aM.2 rfl];exact aR (a6 hq hf)
  ·have:=aR hr;rw[szm hr hf,szm hq hf];have:=aR hf;omega
theorem Ny {p q:KP} (hq:q≠0) (hp:PW 8 p) (hq':PW 8 q) (sp:aa p<=2) (sq:aa q<=2):PW 83 (ab p q):=by
 have:=aR hq;exact(Ri hq hp hq').2.1.mono (ax (jt 8 8 (by omega:_<=2)) aH)
section
variable {p q:KP} (hp:PW 8 p) (hq:PW 8 q) (sp:aa p<=2) (sq:aa q<=2)
include hp hq sp sq
theorem KGcdS:Fn Tryz.prog 24 [ku p,ku q] [ku (ai p q)]:=by
 by_cases h0:q=0
 ·rw[h0];exact Ky hp aw aw
 have h1:=aR h0;have wr:=Ny h0 hp hq sp sq;have c1:=mM h0 hp hq aw aw aw;have sr:=(qure (a:=p) h0).2;by_cases hr:ab p q=0
 ·exact Bc h0 hq aw aw hr c1
 ·have h2:=aR hr;exact Bb h0 rfl hr (re1 aw) wr aw aw c1 (mM hr hq wr aw aw aw)
theorem yA:Fn Tryz.prog 25 [ku p,ku q] [ku (ai p q)]:=by
 by_cases h0:q=0
 ·subst h0;exact qC (w:=fun _=>8) 0 rfl (fun i hi=>absurd hi aw) (fun i hi=>absurd hi aw) (fun i hi=>absurd hi aw) ⟨hp,aH,by show aa p<=1000;omega⟩
 have h1:=aR h0;have wr:=Ny h0 hp hq sp sq;have sr:=(qure (a:=p) h0).2;have c1:=yz h0 hp hq (by
  refine ax (Nat.mul_le_mul (by omega:aa q+2<=4) (Nat.add_le_add_right (Nat.add_le_add_right (pJ 8 8 (by omega:aa p+1-aa q<=2)) _) _)) aH) aw aw
 by_cases hr:ab p q=0
 ·refine qC (w:=fun i=>if i=0 then 83 else 8) 1 (by show mn (ab p q)=0;rw[hr,iJ]) (fun i hi=>?_) (fun i hi=>?_) (fun i hi=>?_) ⟨hq,aH,by show aa q<=1000;omega⟩
  ·obtain rfl:i=0:=aw;exact h0
  ·obtain rfl:i=0:=aw;exact c1
  ·obtain rfl:i=0:=aw;exact⟨wr,aH,by show aa (ab p q)<=1000;omega⟩
 ·have h2:=aR hr;obtain⟨c,hc,e⟩:=JI (r:=ab p q) aw;have em:mn (ab p q)=1:=by rw[e,Gf hc]
  have e1:gP p q 1=(q,1):=by show(q,mn (ab p q))=_;rw[em]
  have rq1:ab q 1=0:=re1 cY;have e2:gP p q 2=(1,0):=by
   show((gP p q 1).2,mn (ab (gP p q 1).1 (gP p q 1).2))=_;rw[e1];show((1:KP),mn (ab q 1))=_;rw[rq1,iJ]
  have c2:=yz f8 hq qG (by
   rw[cY];refine ax (Nat.mul_le_mul_left _ (Nat.add_le_add_right (Nat.add_le_add_right (pJ 8 0 (by omega:aa q+1-1<=2)) _) _)) aH) aw (by rw[cY];omega)
  refine qC (w:=fun i=>if i=0 then 83 else 0) 2 (by rw[e2]) (fun i hi=>?_) (fun i hi=>?_) (fun i hi=>?_) (by rw[e2];exact⟨qG,aH,by show aa (1:KP)<=1000;rw[cY];omega⟩)
  ·obtain rfl|rfl:i=0\/i=1:=aw
   ·exact h0
   ·rw[e1];exact f8
  ·obtain rfl|rfl:i=0\/i=1:=aw
   ·exact c1
   ·rw[e1];exact c2
  ·obtain rfl|rfl:i=0\/i=1:=aw
   ·exact⟨wr,aH,by show aa (ab p q)<=1000;omega⟩
   ·rw[e1];show PW 0 (ab q 1)/\_;rw[rq1,aM.2 rfl];exact⟨fun i=>dY _,aH,aw⟩
end
end Go.AM
namespace Go.AM
open Go.Proofs
open Classical
end Go.AM
namespace Go.AM
open Alg
open Go.Proofs
open Classical
theorem DO {N D:List T5} (hN:∀ t∈N,t.ok) (hD:∀ t∈D,t.ok):FB 7 (mQ N D 1):=by
 obtain⟨A,a1,a2,a3⟩:=pT (N.take 1) fun t ht=>hN t (List.mem_of_mem_take ht);obtain⟨B,b1,b2,b3⟩:=pT (D.take 1) fun t ht=>hD t (List.mem_of_mem_take ht);have la:(N.take 1).length<=1:=by simp;omega
 have lb:(D.take 1).length<=1:=by simp;omega
 have s1:aa (1:Alg.P Int)=1:=jf (R:=Int) aH;have e8:(2:Nat) ^ 7=128:=rfl;by_cases h:lu D 1=0
 ·refine⟨A,1,d9 (R:=Int) aH,?_,aw,aw,aw,?_⟩
  ·rw[mQ,den1,if_pos h,oe,<-a1];rfl
  ·rw[ge (n:=1) aw];show 0+Int.natAbs 1<=_;omega
 ·refine⟨A,B,fun e=>h (by rw[lu,b1,e,cK]),?_,aw,aw,aw,aw⟩;rw[mQ,den1,if_neg h,<-a1,<-b1];rfl
noncomputable def pdl (L:List KP):KP:=L.foldl (· * ·) 1
theorem pW (L:List KP) (x:KP):pdl (L++[x])=pdl L*x:=by simp[pdl]
noncomputable def flt (l:List (KP×Nat)):List KP:=l.flatMap fun x=>List.replicate x.2 x.1
noncomputable def prl (l:List (KP×Nat)) (i n:Nat) (x:KP):KP:=pdl (flt (l.take i)++List.replicate n x)
theorem Ie (l:List (KP×Nat)) (i n:Nat) (x:KP):prl l i (n+1) x=prl l i n x*x:=by
 rw[prl,List.replicate_succ',<-List.append_assoc,pW];rfl
theorem If {l:List (KP×Nat)} {i:Nat} (h:i<l.length) (y:KP):prl l i l[i].2 l[i].1=prl l (i+1) 0 y:=by
 simp only[prl,aq h,flt,List.flatMap_append,List.flatMap_cons,List.flatMap_nil,List.append_nil,List.replicate_zero]
theorem Ic (l:List (KP×Nat)) (y:KP):prl l 0 0 y=1:=by simp[prl,flt,pdl]
theorem Ln (l:List (KP×Nat)) (y:KP):prl l l.length 0 y=pdl (flt l):=by simp[prl]
theorem dZ (x:KP×Nat):sqr x=[kc x.1,C.v (.int .i64 (x.2:Int))]:=rfl
theorem RB {l:List (KP×Nat)} (hl:l.length<=100) (hn:∀ i (hi:i<l.length),l[i].2<=19) (hs:∀ i (hi:i<l.length) n,n<l[i].2->Fn Tryz.prog 19 [ku (prl l i n l[i].1),ku l[i].1] [ku (prl l i (n+1) l[i].1)]) :
  Fn Tryz.prog 33 [.c (.lst (l.map sqr))] [ku (pdl (flt l))]:=by
 refine aJ (fn:=Tryz.f33) ?_;simp -dsimp only[go_sem];refine aK (fj 1 aw) ?_;simp -dsimp only[go_sem];refine ao (yB (kn 1)) rfl ?_;simp -dsimp only[go_sem];refine a8 [(3,5),(8,33)] [] [] (fun m τ β ε=>∃ i:Nat,m=l.length-i/\i<=l.length/\τ 4 = .i (iN i)/\τ 3 = .i (ku (prl l i 0 1))) (fun e τ β ε=>e = .exit 0/\τ 3 = .i (ku (pdl (flt l)))) l.length ?_ ?_ ?_
 ·refine⟨0,aw,aw,rfl,?_⟩;show AV.i (ku (an (kn 1)))=_;rw[Ic,d7];rfl
 ·rintro m τ β ε π hK hKB hKE ⟨i,hm,hi,h4,h3⟩;have k0:τ 0 = .i (.c (.lst (l.map sqr))):=(hK 0 rfl).trans rfl;by_cases hA:i<l.length
  ·have dA:decide ((i:Int)<(l.length:Int))=true:=aF aw;have gl:l[i]?=some l[i]:=by simp[hA]
   have hx:=hn i hA;have hy:=hs i hA;have hz:=If hA (1:KP);generalize l[i]=x at *
   simp -dsimp only[go_sem,h4,h3,k0,dA,az];refine a8 [(3,3),(5,5),(14,33)] [] [] (fun m τ β ε=>∃ n:Nat,m=x.2-n/\n<=x.2/\τ 5 = .i (iN n)/\τ 3 = .i (ku (prl l i n x.1))) (fun e τ β ε=>e = .exit 2/\τ 3 = .i (ku (prl l i x.2 x.1))) x.2 ?_ ?_ ?_
   ·refine⟨0,aw,aw,rfl,?_⟩;simp -dsimp only[go_sem,h3];simp[prl]
   ·rintro m' τ' β' ε' π' hK' hKB' hKE' ⟨n,hm',hn',h5',h3'⟩;have j0:τ' 0 = .i (.c (.lst (l.map sqr))):=(hK' 0 rfl).trans (by simp -dsimp only[go_sem,k0]);have j4:τ' 4 = .i (iN i):=(hK' 4 rfl).trans (by simp -dsimp only[go_sem,h4]);by_cases hB:n<x.2
    ·have dB:decide ((n:Int)<(x.2:Int))=true:=aF aw;have dC:decide ((n:Int)<20)=true:=aF aw;simp -dsimp only[go_sem,j0,j4,h5',h3',dZ];refine aP gl ?_;simp -dsimp only[go_sem,j0,j4,h5',h3',dB,dC,dZ];refine aP gl ?_;simp -dsimp only[go_sem,j0,j4,h5',h3',dZ];refine ao (hy n hB) rfl ?_;simp -dsimp only[go_sem,h5']
     repeat(refine And.intro aw ?_)
     refine again (x.2-(n+1)) aw ⟨(aA hK'),hKB',hKE',n+1,rfl,aw,rfl,rfl⟩
    ·have dB:decide ((n:Int)<(x.2:Int))=false:=aG aw;obtain rfl:n=x.2:=aw;simp -dsimp only[go_sem,j0,j4,h5',h3',dZ];refine aP gl ?_;simp -dsimp only[go_sem,j0,j4,h5',h3',dB,dZ];exact⟨(aA hK'),hKB',hKE'⟩
   ·rintro e τ' β' ε' π' hK' hKB' hKE' ⟨rfl,h3'⟩;have j4:τ' 4 = .i (iN i):=(hK' 4 rfl).trans (by simp -dsimp only[go_sem,h4]);have kO:=Kp.step2 hK hK' (by intro n;simp[inR]<;>omega) (aA hK);have kB:=Kp.step2 hKB hKB' (by intro n;simp[inR]) hKB;have kE:=Kp.step2 hKE hKE' (by intro n;simp[inR]) hKE;simp -dsimp only[go_sem,j4]
    repeat(refine And.intro aw ?_)
    refine again (l.length-(i+1)) aw ⟨(aA kO),kB,kE,i+1,rfl,aw,rfl,?_⟩;simp -dsimp only[go_sem,h3',hz]
  ·have dA:decide ((i:Int)<(l.length:Int))=false:=aG aw;obtain rfl:i=l.length:=aw;simp -dsimp only[go_sem,h4,h3,k0,dA,az];exact⟨(aA hK),hKB,hKE,by rw[Ln]⟩
 ·rintro e τ β ε π hK hKB hKE ⟨rfl,h3⟩;simp -dsimp only[go_sem,h3]
end Go.AM
