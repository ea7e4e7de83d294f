/- Lemmas, part 21 of 23. No condition. -/
import Derived.Test.YtcmfkhicjhliaaaGreatPZ319
set_option maxRecDepth 65536
set_option linter.unusedSimpArgs false
set_option linter.unusedVariables false
set_option linter.unusedSectionVars false
namespace Go.AM
open Go.Proofs
open Classical
abbrev one1:List Tm:=[(e0,1)]
def Tok (t:Tm):Prop:=cZ t.1/\t.1.lt 1099511627776/\t.2≠0/\QB 4294967296 t.2
theorem On (e:Ex):e0.add e=e:=by simp[e0,Ex.add]
theorem F3 (e:Ex):co e e=0:=(jx e e).2 rfl
theorem FA {m:Tm} (h:Tok m):FC one1 [m]=[m]:=by
 have e1:sumM one1 [m] []=[m]:=by
  simp only[sumM,rowM,List.foldl_cons,List.foldl_nil,addT,On];rw[show(1:Rat)*m.2=m.2 from Rat.one_mul _]
 rw[FC,e1,vf];have e2:keep m=true:=by
  unfold keep;rw[aF h.1,aF h.2.2.1];rfl
 simp only[List.filter_cons,e2,if_true,List.filter_nil,E7,pI]
theorem E4 (m:Tm) (R:List Tm):E5 (m::R) [m]=R:=by
 rw[E5,js _ aH,List.map_cons,List.map_nil,jA];simp only[F3];rw[if_neg aH,if_neg aH,if_pos (by show m.2+m.2 * -1=0;rw[Rat.mul_neg,Rat.mul_one];exact Rat.add_neg_cancel _),jz]
theorem C9 (q:Rat):q/1=q:=by rw[Rat.div_def,show(1:Rat)⁻¹=1 by decide +kernel];exact Rat.mul_one q
theorem AA (N:List Tm) (hl:N.length<=1048576) (h:∀ t∈N,Tok t):Fn Tryz.prog 152 [iM N,iM one1] [iM N,iB true]:=by
 refine aJ (fn:=Tryz.f152) ?_;have c1:one1[0]?=some (e0,1):=rfl;have e1:decide (((1:Nat):Int)=0)=false:=rfl;simp -dsimp only[go_sem,e1,az];refine ci 6 6 8 (rs:=[]) rfl au ?_;refine br [(0,0),(4,8),(12,59)] [(7,7)] [(53,53),(6,6)] (fun n τ β ε=>∃ i:Nat,n=N.length-i/\i<=N.length/\τ 0 = .i (iM (N.drop i))/\Own 8 ((N.take i).map eT) 6 6 τ ε)
  (fun e τ β ε=>e = .exit 0/\Own 8 (N.map eT) 6 6 τ ε) N.length ?_ ?_ ?_
 ·exact⟨0,aw,aw,rfl,Own.mk (g:=1) (mm:=false) aw rfl rfl rfl⟩
 ·rintro n τ β ε π hK hKB hKE ⟨i,hn,hi,h0,g,mm,hg,h6,hrow⟩;have hlen:(N.take i).length=i:=by simp;omega
  rw[az,hlen]at h6;have k1:τ 1 = .i (iM one1):=(hK 1 rfl).trans rfl;by_cases hlt:i<N.length
  ·obtain⟨m,hmi⟩:∃ m,N[i]=m:=⟨_,rfl⟩;obtain⟨R,eR⟩:∃ R,N.drop (i+1)=R:=⟨_,rfl⟩;have hdr:N.drop i=N[i]::N.drop (i+1):=List.drop_eq_getElem_cons hlt;have hm:=h _ (List.getElem_mem hlt);have htk:N.take (i+1)=N.take i++[N[i]]:=aq hlt;have hll:(N.drop (i+1)).length<=1048576:=by simp;omega
   rw[hmi,eR]at hdr;rw[hmi]at hm htk;rw[eR]at hll;have hRq:∀ t∈m::R,QB 8589934592 t.2:=fun t ht=>by
    rw[<-hdr]at ht;exact(h t (List.mem_of_mem_drop ht)).2.2.2.mono' aw
   rw[hdr]at h0;have cR:(m::R)[0]?=some m:=rfl;have hA:(0:Int)<((R.length+1:Nat):Int):=aw;have lR:(m::R).length=R.length+1:=rfl;obtain⟨t1,t2,t3,t4⟩:=hm;have eN:decide (cZ m.1)=true:=aF t1;unfold cZ at t1;have t2':=t2;unfold Ex.lt at t2';simp -dsimp only[go_sem,h0,hA,Int.reduceToNat,Int.reduceLE,aC];refine aQ cR ?_;simp -dsimp only[go_sem,h0,hA,h6,hrow];refine br [(8,8),(18,34)] [(7,7)] [] (fun n τ' β' ε'=>∃ i:Nat,n=4-i/\i<=4/\τ' 18 = .i (iN i)/\β' 7=⟨(β 7).gen+1,eT m⟩)
    (fun e τ' β' ε'=>e = .exit 2/\β' 7=⟨(β 7).gen+1,eT m⟩) 4 ?_ ?_ ?_
   ·exact⟨0,aw,aw,rfl,rfl⟩
   ·rintro n2 τ2 β2 ε2 π2 hK2 hKB2 hKE2 ⟨i,hn2,hi,h18,b7⟩;have q7:τ2 7 = .bp 7 ((β 7).gen+1) 0:=(hK2 7 rfl).trans rfl;have q1:τ2 1 = .i (iM one1):=(hK2 1 rfl).trans k1;obtain rfl|rfl|rfl|rfl|rfl:i=4\/i=0\/i=1\/i=2\/i=3:=aw
    ·have h18':τ2 18 = .i (iN 4):=h18;simp -dsimp only[go_sem,h18',Int.reduceLT,decide_false];exact⟨(aA hK2),hKB2,hKE2,b7⟩
    ·have h18':τ2 18 = .i (iN 0):=h18;simp -dsimp only[go_sem,h18',Int.reduceLT,decide_true];refine ap 13 [] false true ?_;simp -dsimp only[go_sem,h18',q1,q7,b7,Int.reduceToNat,Int.reduceLE,aC,Int.reduceAdd];refine aQ c1 ?_;simp -dsimp only[go_sem,h18',q1,q7,b7,Int.reduceToNat,Int.reduceLE,aC,Int.reduceAdd,e0,Int.sub_zero]
     repeat(refine And.intro aw ?_)
     refine again (4-1) aw ⟨(aA hK2),(aA hKB2),hKE2,1,rfl,aw,rfl,?_⟩;simp -dsimp only[go_sem]
    ·have h18':τ2 18 = .i (iN 1):=h18;simp -dsimp only[go_sem,h18',Int.reduceLT,decide_true];refine ap 13 [] false true ?_;simp -dsimp only[go_sem,h18',q1,q7,b7,Int.reduceToNat,Int.reduceLE,aC,Int.reduceAdd];refine aQ c1 ?_;simp -dsimp only[go_sem,h18',q1,q7,b7,Int.reduceToNat,Int.reduceLE,aC,Int.reduceAdd,e0,Int.sub_zero]
     repeat(refine And.intro aw ?_)
     refine again (4-2) aw ⟨(aA hK2),(aA hKB2),hKE2,2,rfl,aw,rfl,?_⟩;simp -dsimp only[go_sem]
    ·have h18':τ2 18 = .i (iN 2):=h18;simp -dsimp only[go_sem,h18',Int.reduceLT,decide_true];refine ap 13 [] false true ?_;simp -dsimp only[go_sem,h18',q1,q7,b7,Int.reduceToNat,Int.reduceLE,aC,Int.reduceAdd];refine aQ c1 ?_;simp -dsimp only[go_sem,h18',q1,q7,b7,Int.reduceToNat,Int.reduceLE,aC,Int.reduceAdd,e0,Int.sub_zero]
     repeat(refine And.intro aw ?_)
     refine again (4-3) aw ⟨(aA hK2),(aA hKB2),hKE2,3,rfl,aw,rfl,?_⟩;simp -dsimp only[go_sem]
    ·have h18':τ2 18 = .i (iN 3):=h18;simp -dsimp only[go_sem,h18',Int.reduceLT,decide_true];refine ap 13 [] false true ?_;simp -dsimp only[go_sem,h18',q1,q7,b7,Int.reduceToNat,Int.reduceLE,aC,Int.reduceAdd];refine aQ c1 ?_;simp -dsimp only[go_sem,h18',q1,q7,b7,Int.reduceToNat,Int.reduceLE,aC,Int.reduceAdd,e0,Int.sub_zero]
     repeat(refine And.intro aw ?_)
     refine again (4-4) aw ⟨(aA hK2),(aA hKB2),hKE2,4,rfl,aw,rfl,?_⟩;simp -dsimp only[go_sem]
   ·rintro e τ2 β2 ε2 π2 hK2 hKB2 hKE2 ⟨rfl,b7⟩;refine⟨_,bA.refl _,?_⟩;have r7:τ2 7 = .bp 7 ((β 7).gen+1) 0:=(hK2 7 rfl).trans rfl;have r1:τ2 1 = .i (iM one1):=(hK2 1 rfl).trans k1;have r0:τ2 0 = .i (iM (m::R)):=(hK2 0 rfl).trans h0;have r6:τ2 6 = .sl 6 g i:=(hK2 6 rfl).trans h6;have rr:ε2 6=⟨g,8,(N.take i).map eT,mm,true⟩:=(hKE2 6 rfl).trans hrow;have kO:=Kp.step2 hK hK2 (by intro n;simp[inR]<;>omega) (aA hK);have kB:=Kp.step2 hKB hKB2 (by intro n;simp[inR]<;>omega) (aA hKB);have kE:=Kp.step2 hKE hKE2 (by intro n;simp[inR]) hKE;have hq1:QB 17179869184 (1:Rat):=nE;have hq2:=t4.mono' (m:=8589934592) aw;have hmm:(1:Rat)*m.2=m.2:=Rat.one_mul _;simp -dsimp only[go_sem,r7,b7,r1,r0];refine aP (args':=[iE m.1]) rfl (lL _) ?_;simp -dsimp only[go_sem,eN];refine bB av 9 11 [] true [.tmp 49] none av av av av aE ?_;simp -dsimp only[go_sem,r7,b7,r1,r0,Int.reduceToNat,Int.reduceLE,aC];refine aQ c1 ?_;simp -dsimp only[go_sem,r7,b7,r1,r0,Int.reduceToNat,Int.reduceLE,aC];refine aP (args':=[iQ m.2,iQ 1]) rfl (su _ _ aH (t4.mono' aw) hq1) ?_;rw[C9];simp -dsimp only[go_sem,r7,b7,r1,r0,Int.reduceToNat,Int.reduceLE,aC];simp -dsimp only[go_sem,r6,rr,hg,az,hlen]
    repeat(refine And.intro aw ?_)
    simp -dsimp only[go_sem,r7,r1,r0];refine aP (args':=[iM one1,iM [m]]) rfl (xP one1 [m] aH au (fun t ht=>by simp at ht;subst ht;simp[Ex.lt,e0]) (fun t ht=>by simp at ht;subst ht;unfold Ex.lt;omega)
     (fun t ht=>by simp at ht;subst ht;exact hq1) (fun t ht=>by simp at ht;subst ht;exact t4.mono' aw) ?_) ?_
    ·intro i' j' hi' hj';obtain rfl:i'=0:=by simp at hi';omega
     obtain rfl:j'=0:=by simp at hj';omega
     refine⟨?_,fun e q hq=>?_⟩
     ·show QB 8589934592 ((1:Rat)*m.2);rw[hmm];exact hq2
     ·simp[rowM,sumM]at hq
    rw[FA ⟨by unfold cZ;exact t1,t2,t3,t4⟩];simp -dsimp only[go_sem,r0];refine ao (Ef (m::R) [m] ar hRq (fun t ht=>by simp at ht;subst ht;exact hq2)) rfl ?_;rw[E4];simp -dsimp only[go_sem];refine bc (N.length-(i+1)) 6 53 6 aw rfl rfl aw aH ⟨(aA kO),(aA kB),(aA kE),i+1,rfl,aw,by rw[eR];simp -dsimp only[go_sem],?_⟩;exact Own.mk2 (Nat.succ_pos _) (by simp -dsimp only[go_sem];rfl) (by simp -dsimp only[go_sem];rfl) ar (by simp only[<-List.map_take];rw[htk,List.map_append];rfl)
  ·have hA:¬ (0:Int)<((0:Nat):Int):=aw;obtain rfl:i=N.length:=aw;rw[List.take_length]at hrow;rw[List.drop_length]at h0;simp -dsimp only[go_sem,h0,hA];exact⟨(aA hK),hKB,hKE,Own.mk hg h6 au hrow⟩
 ·rintro e τ β ε π hK hKB hKE ⟨rfl,g,mm,hg,h6,hrow⟩;refine⟨_,bA.refl _,?_⟩;rw[az]at h6;simp -dsimp only[go_sem,h6,hrow,hg]
theorem JN {N:List Tm} (hN:N≠[]):Fn Tryz.prog 151 [iM N,iM one1] [iM one1]:=by
 have e1:decide ((N.length:Int)=0)=false:=aG fun h=>hN (List.eq_nil_of_length_eq_zero aw);have e2:decide (((1:Nat):Int)=0)=false:=rfl;refine aJ (fn:=Tryz.f151) ?_;simp -dsimp only[go_sem,e1,e2,az];refine ao (ns N) rfl ?_;by_cases h1:zi N=true
 ·simp -dsimp only[go_sem,h1];refine aK By ?_;simp -dsimp only[go_sem]
 ·have e3:zi N=false:=by simpa using h1
  simp -dsimp only[go_sem,e3];refine ao (ns one1) rfl ?_;rw[show zi one1=true from rfl];simp -dsimp only[go_sem];refine aK By ?_;simp -dsimp only[go_sem]
theorem sX (N:List Tm):d7 N 1=N:=by
 rw[js _ aH]
 conv=>rhs;rw[<-List.map_id N]
 exact List.map_congr_left fun t _=>by rw[Rat.mul_one];rfl
theorem yu:∀ t∈one1,Tok t:=by
 intro t ht;simp at ht;subst ht;refine⟨by simp[cZ,e0],by simp[Ex.lt,e0],aH,?_,?_⟩
 ·exact ax (fq (k:=1) aH) aw
 ·exact ax (fq (k:=1) aH) aw
theorem Ax (N:List Tm) (hl:N.length<=1048576) (h:∀ t∈N,Tok t):Fn Tryz.prog 110 [iM N,iM one1] [iF N one1,iN 0]:=by
 by_cases hN:N=[]
 ·subst hN;exact Aw au
 have q1:∀ t∈N,QB 17179869184 t.2:=fun t ht=>(h t ht).2.2.2.mono' aw;have:=JV (N:=N) (D:=one1) (G:=one1) (N1:=N) (D1:=one1) (c:=1) (x:=(e0,1)) au hN (JN hN) (AA N hl h) (AA one1 aH yu) rfl aH nE (C9 1).symm
  (jU N 1 aw q1 nE) (jU one1 1 aH (fun t ht=>(yu t ht).2.2.2.mono' aw) nE)
 rw[sX,sX]at this;exact this
abbrev F2:=List Tm×List Tm
def fr2 (x:F2):List C:=[cM x.1,cM x.2]
abbrev fl (l:List F2):IV := .c (.lst (l.map fr2))
theorem Mi {a:List Tm} {v:Nat} {L:List (List Tm)} (hl:L.length<=1099511627776) (h:FnM Tryz.prog 89 [iM a,iN v] 1 (L.map fun N=>[cM N])):Fn Tryz.prog 43 [iM a,iN v] [fl (L.map fun N=>(N,one1))]:=by
 refine aJ (fn:=Tryz.f43) ?_;simp -dsimp only[go_sem];refine cn h ?_;simp -dsimp only[go_sem,az];refine ci 5 5 2 (rs:=[]) rfl au ?_;refine br [(5,5),(7,7),(12,21)] [] [(20,20),(5,5)] (fun n τ β ε=>∃ i:Nat,n=L.length-i/\i<=L.length/\τ 12 = .i (iN i)/\Own 2 ((L.take i).map fun N=>fr2 (N,one1)) 5 5 τ ε)
  (fun e τ β ε=>e = .exit 0/\Own 2 (L.map fun N=>fr2 (N,one1)) 5 5 τ ε) L.length ?_ ?_ ?_
 ·exact⟨0,aw,aw,rfl,Own.mk (g:=1) (mm:=false) (len:=0) aw rfl rfl rfl⟩
 ·rintro n τ β ε π hK hKB hKE ⟨i,hn,hi,h12,g,mm,hg,h5,hrow⟩;have k10:τ 10 = .sl 10 1 L.length:=(hK 10 rfl).trans rfl;have k11:τ 11 = .i (iN L.length):=(hK 11 rfl).trans rfl;have e10:ε 10=⟨1,1,L.map fun N=>[cM N],!L.isEmpty,true⟩:=by rw[hKE 10 aH];simp -dsimp only[go_sem,List.isEmpty_map]
  have hlen:(L.take i).length=i:=by simp;omega
  rw[az,hlen]at h5;by_cases hlt:i<L.length
  ·have hA:(i:Int)<(L.length:Int):=aw;have hgl:L[i]?=some L[i]:=aD hlt;have htk:L.take (i+1)=L.take i++[L[i]]:=aq hlt;simp -dsimp only[go_sem,h12,k10,k11,e10,hA,az];refine⟨hlt,aQ hgl ?_⟩;simp -dsimp only[go_sem,h12,k10,k11,e10,h5,hrow];refine aP (args':=[iM L[i]]) rfl (uZ _) ?_;simp -dsimp only[go_sem,h12,h5,hrow,hg,az,hlen]
   repeat(refine And.intro aw ?_)
   refine bc (L.length-(i+1)) 5 20 5 aw rfl rfl aw aH ⟨(aA hK),hKB,(aA hKE),i+1,rfl,aw,rfl,?_⟩;exact Own.mk2 (Nat.succ_pos _) (by simp -dsimp only[go_sem];rfl) (by simp -dsimp only[go_sem];rfl) ar (by simp only[<-List.map_take];rw[htk,List.map_append];rfl)
  ·have hA:¬ (i:Int)<(L.length:Int):=aw;obtain rfl:i=L.length:=aw;rw[List.take_length]at hrow;simp -dsimp only[go_sem,h12,k11,hA];exact⟨(aA hK),hKB,hKE,Own.mk hg h5 au hrow⟩
 ·rintro e τ β ε π hK hKB hKE ⟨rfl,g,mm,hg,h5,hrow⟩;refine⟨_,bA.refl _,?_⟩;rw[az]at h5;simp -dsimp only[go_sem,h5,hrow,hg];simp[Function.comp_def]
theorem O9 (rs:List (List C)):FnC Tryz.prog 95 [.c (.lst rs)] 136 [[.lst rs]]:=by
 refine qW kd (fn:=Tryz.f95) av rfl rfl rfl av au av ?_;simp -dsimp only[go_sem,jQ];refine lT (ts:=[(1,1)]) (by simp -dsimp only[go_sem]) (by simp -dsimp only[go_sem]) ?_;simp -dsimp only[go_sem,xm];exact⟨[(1,1)],rfl,au,au,rfl⟩
theorem Mv (l:List F2) (hl:l.length<=1099511627776):JL Tryz.prog 136 [[.lst (l.map fr2)]] (vV (fun x=>iF x.1 x.2) l):=by
 refine oZ (fn:=Tryz.f136) av rfl rfl rfl av au av ?_;intro c hc hbl hL;rw[zh];have hb1:c.bs.length=1:=hbl;refine WPi.seq_k hc kd fun K hK _=>?_;simp -dsimp only[go_sem,az]
 repeat(refine And.intro aw ?_)
 refine hK _ (cK hb1) ?_;refine WPi.block (WPi.loop (fun n s k=>∃ τ,s=⟨τ,upd mr 1000 ⟨1,[.lst (l.map fr2)]⟩,oi,ni⟩/\τ 0=sc (.func (.yield c.l) #[] #[])/\τ 1 = .bp 1000 1 0/\n<=l.length/\τ 3 = .i (iN ((n:Int)-1))/\k=some (l.length-n)) (n:=l.length) ⟨_,rfl,rfl,rfl,ay _,rfl,au⟩ ?_);rintro n s k ⟨τ,rfl,h0,h1,hn,h3,rfl⟩;refine WPi.seq_k hc kd fun K hK hK2=>?_;cases n with
 | zero =>
  have e1:decide ((0:Int)<=((0:Nat):Int)-1)=false:=rfl;simp -dsimp only[go_sem,h3,e1];refine hK2 _ _ au (cK hb1) ?_;refine⟨.inl rfl,.inl ?_⟩;rw[jy];simp
 | succ n =>
  have en:((n+1:Nat):Int)-1=(n:Int):=aw;rw[en]at h3;have e1:decide ((0:Int)<=(n:Int))=true:=aF aw;have hg:l[n]?=some l[n]:=aD aw;simp -dsimp only[go_sem,h3,e1];refine hK _ (cK hb1) ?_;refine WPi.seq ?_;refine WPi.block ?_;refine WPi.seq ?_;refine WPi.yreg_k hc kd 6 17 (l.length-(n+1)) [iN (n:Int),iF l[n].1 l[n].2] rfl rfl rfl rfl (by rw[hL];exact nZ _ _ aw) fun K1 K2 hK1 hK2=>?_;simp -dsimp only[go_sem,h0,h1,h3];refine aQ hg ?_;simp -dsimp only[go_sem,h0,h1,h3,fr2];refine⟨cK hb1,rfl,?_⟩;refine⟨hK1 _ (cK hb1) ?_,hK2 _ (cK hb1) ?_⟩
  ·refine WPi.end_k hc kd fun K hK=>?_;simp -dsimp only[go_sem];refine hK _ _ (cK hb1) ?_;refine WPi.end_k hc kd fun K hK=>?_;simp -dsimp only[go_sem,h3]
   repeat(refine And.intro aw ?_)
   refine hK _ _ (cK hb1) ?_;refine⟨n,aw,_,rfl,h0,h1,aw,rfl,?_⟩;congr 1;omega
  ·refine WPi.end_k hc kd fun K hK=>?_;simp -dsimp only[go_sem];refine hK _ _ (cK hb1) ?_;exact⟨.inr rfl,.inr rfl⟩
theorem QC (l:List F2) (v:Nat) (hv:v<4) (hl:l.length<=1099511627776) (o:Nat->F2) (h0:Fn Tryz.prog 63 [iN 0] [.g (fr2 (o 0))])
  (H:∀(k:Nat) (h:k<l.length),∃ m:F2,Fn Tryz.prog 65 [.g (fr2 (o k)),iF [(e0.to v 1,1)] one1] [.g (fr2 m)]/\Fn Tryz.prog 64 [.g (fr2 m),.g (fr2 l[l.length-(k+1)])] [.g (fr2 (o (k+1)))]) :
  Fn Tryz.prog 48 [fl l,iN v] [.g (fr2 (o l.length))]:=by
 refine oa (fn:=Tryz.f48) av rfl rfl rfl av au av ?_;refine WPn.seq_k kd fun K hK _=>?_;simp -dsimp only[go_sem];refine hK _ ?_;refine WPn.seq_k kd fun K hK _=>?_;simp -dsimp only[go_sem];refine aK h0 ?_;simp -dsimp only[go_sem];refine⟨rfl,hK _ ?_⟩;refine WPn.seq ?_;refine WPn.seq_k kd fun K hK _=>?_;simp -dsimp only[go_sem];refine nY [1000] rfl rfl rfl (O9 (l.map fr2)) au rfl ?_;rw[zQ];simp -dsimp only[go_sem];refine hK _ (WPn.block (WPn.rangeFunc (ts:=[(1000,1)]) [3,5] (fun k cs=>cs=[[C.v (.int .i64 (v:Int))],fr2 (o k)]) (fun _ _=>False) (by simp -dsimp only[go_sem]) (by simp -dsimp only[go_sem]) au rfl (Mv l hl) au (by simp -dsimp only[go_sem];decide) ?_ ?_ ?_ ?_ ?_))
 ·simp -dsimp only[go_sem];rfl
 ·intro x hx;obtain⟨p,-,rfl⟩:=List.mem_map.1 hx;rfl
 ·rintro k x cs hx rfl -;have hk:k<l.length:=by
   have:=(List.getElem?_eq_some_iff.1 hx).1;rwa [jy]at this
  have hx2:=nZ (fun x:F2=>iF x.1 x.2) l (i:=l.length-(k+1)) aw;rw[show l.length-(l.length-(k+1)+1)=k by omega,hx]at hx2;cases hx2;obtain⟨m,H1,H2⟩:=H k hk;generalize hs:bU _ _ _ _ _=s;obtain⟨τ,β,ε,π⟩:=s;have h12:τ 12 = .i (iF l[l.length-(k+1)].1 l[l.length-(k+1)].2):=by
   rw[rH hs];simp -dsimp only[go_sem,bU,jc]
  have h3:τ 3 = .bp 3 1 0:=by
   rw[rH hs];simp -dsimp only[go_sem,bU,jc];rw[oE]<;>simp -dsimp only[go_sem]
  have h5:τ 5 = .bp 5 1 0:=by
   rw[rH hs];simp -dsimp only[go_sem,bU,jc];rw[oE]<;>simp -dsimp only[go_sem]
  have b3:β 3=⟨1,[C.v (.int .i64 (v:Int))]⟩:=by
   rw[Cq hs];simp -dsimp only[go_sem,bU,eJ]
  have b5:β 5=⟨1,fr2 (o k)⟩:=by
   rw[Cq hs];simp -dsimp only[go_sem,bU,eJ]
  clear hs;generalize l[l.length-(k+1)]=y at *
  refine WP.end_k kd fun K hK=>?_;simp -dsimp only[go_sem,h12];refine hK _ _ ⟨rfl,?_⟩;refine WP.end_k kd fun K hK=>?_;simp -dsimp only[go_sem,h12,h3,h5,b3,b5];refine ap 6 [] false true ?_;simp -dsimp only[go_sem,h12,h3,h5,b3,b5];refine ao (Mj v hv) rfl ?_;simp -dsimp only[go_sem,h12,h3,h5,b3,b5,fr2];refine ao H1 rfl ?_;simp -dsimp only[go_sem,h12,h3,h5,b3,b5,fr2];refine ao H2 rfl ?_;simp -dsimp only[go_sem,h12,h3,h5,b3,b5,fr2];refine hK _ _ ⟨by simp -dsimp only[go_sem,b3],?_⟩;simp -dsimp only[go_sem,b3];rfl
 ·rintro cs γs rfl-hγ;obtain⟨g,rfl⟩:=List.length_eq_one_iff.1 hγ;rw[jy];rw[iy,jj];refine WPn.end_k kd fun K hK=>?_;dsimp only[List.map,setB];simp -dsimp only[go_sem,fr2];refine hK _ _ ⟨.inr rfl,?_⟩;simp -dsimp only[go_sem,fr2]
 ·intro e cs γs _ h;exact h.elim
end Go.AM
namespace Alg
open Classical
section
variable {F:Type} [CR F] [Fd F]
theorem X_c (i:Nat):(ak:P F).c i=if i=1 then 1 else 0:=rfl
theorem za (c:F) (i:Nat):(ak-an c).c i=if i=0 then -c else if i=1 then 1 else 0:=by
 rw[iP,X_c]
 match i with
 | 0=>rw[if_neg aw,nw,if_pos rfl,sub_eq,zero_add]
 | 1=>rw[if_pos rfl,gS,sub_zero];rfl
 | i+2=>rw[if_neg aw,gS,sub_zero];rfl
theorem ff (c:F):aa (ak-an c)=2:=j8 (fun i hi=>by rw[za,if_neg aw,if_neg aw]) fun _=>by rw[za,if_neg aw,if_pos rfl];exact one_ne
theorem jJ (c:F):(ak-an c:P F)≠0:=fun h=>by
 have:=ff c;rw[h,aM.2 rfl]at this;omega
theorem BG (c:F):lc (ak-an c)=1:=by rw[lc,ff,za,if_neg aw,if_pos rfl]
theorem KX (c:F):der (ak-an c)=1:=by rw[Lx,Qm,Qn,sub_zero]
theorem mX:aa (1:P F)=1:=jk (R:=F) one_ne
theorem yS:(1:P F)≠0:=fo (R:=F) one_ne
theorem tg {a b q r:P F} (h:a=q*b+r) (hr:aa r<aa b):ab a b=r:=(kf h hr).2
theorem PJ {a b q r:P F} (h:a=q*b+r) (hr:aa r<aa b):qu a b=q:=(kf h hr).1
theorem wY {a b q:P F} (hb:b≠0) (h:a=q*b):ab a b=0:=tg (q:=q) (by rw[h,add_zero]) (by rw[aM.2 rfl];exact aR hb)
theorem mV {a b q:P F} (hb:b≠0) (h:a=q*b):qu a b=q:=PJ (q:=q) (r:=0) (by rw[h,add_zero]) (by rw[aM.2 rfl];exact aR hb)
theorem gD {a:P F} {c:F} (hc:c≠0):ab a (an c)=0:=wY (q:=a*an (inv c)) (fo hc) (by rw[mul_assoc,<-bH,cJ hc,cw,mul_one])
theorem eu1 {a b:P F} (hb:b≠0) (h:ab a b=0):eu a b=[(a,b)]:=by rw[kk hb,h,jm]
theorem eu2 {a b r:P F} (hb:b≠0) (h:ab a b=r) (hr:r≠0) (h2:ab b r=0):eu a b=[(a,b),(b,r)]:=by rw[kk hb,h,eu1 hr h2]
theorem eu3 {a b r s:P F} (hb:b≠0) (h:ab a b=r) (hr:r≠0) (h2:ab b r=s) (hs:s≠0) (h3:ab r s=0):eu a b=[(a,b),(b,r),(r,s)]:=by rw[kk hb,h,eu2 hr h2 hs h3]
theorem gd1 {a b:P F} (hb:b≠0) (h:ab a b=0):ai a b=mn b:=by
 rw[<-DC hb,h,kh]
theorem gd2 {a b r:P F} (hb:b≠0) (h:ab a b=r) (hr:r≠0) (h2:ab b r=0):ai a b=mn r:=by
 rw[<-DC hb,h,gd1 hr h2]
theorem NY {c:F} (hc:c≠0):mn (an c)=1:=by rw[mn,oJ,<-bH,cJ hc,cw]
theorem H4 (c:F):mn (ak-an c)=ak-an c:=pC (BG c)
end
def PC (w:Nat) (p:P KQ):Prop:=∃(B:P Int) (A:Nat->P Int),B≠0/\(∀ i,p.c i*em (toQ B)=em (toQ (A i)))/\aa B<=w+1/\n1 B<=2 ^ w/\∀ i,aa (A i)<=w+1/\n1 (A i)<=2 ^ w
theorem PC.mono {w v:Nat} {p:P KQ} (h:PC w p) (hv:w<=v):PC v p:=by
 obtain⟨B,A,h1,h2,h3,h4,h5⟩:=h;exact⟨B,A,h1,h2,aw,ax h4 (cS hv),fun i=>⟨by have:=(h5 i).1;omega,ax (h5 i).2 (cS hv)⟩⟩
theorem PC.fb {w:Nat} {p:P KQ} (h:PC w p) (i:Nat):FB w (p.c i):=by
 obtain⟨B,A,h1,h2,h3,h4,h5⟩:=h;exact⟨A i,B,h1,Og (dv h1) (h2 i),(h5 i).1,(h5 i).2,h3,h4⟩
theorem wL {A:P Int}:toQ A=0↔A=0:=⟨fun h=>Classical.byContradiction fun h'=>dv h' h,fun h=>by rw[h,cV]⟩
theorem Dh {p:P KQ} {A:Nat->P Int} {B:P Int} (h:∀ i,p.c i*em (toQ B)=em (toQ (A i))) {i:Nat} (hi:p.c i=0):A i=0:=by
 have:=h i;rw[hi,zero_mul,<-nU]at this;exact wL.1 (xn this).symm
theorem BA {H:Nat}:∀(n s:Nat) {f:Nat->Nat->P Int},(∀ i j,s<=i->f i j=0)->(∀ i j,n1 (f i j)<=H)->n1 (tri f n)<=s*H
 | 0,s,f,hz,hH=>by
  cases s with
  | zero=>simp only[tri];rw[hz 0 0 (ay _),it];omega
  | succ s=>simp only[tri];exact ax (hH 0 0) (Nat.le_mul_of_pos_left _ aw)
 | n+1,s,f,hz,hH=>by
  simp only[tri];cases s with
  | zero =>
   rw[hz 0 _ (ay _),zero_add];exact BA n 0 (f:=fun i j=>f (i+1) j) (fun i j _=>hz _ _ aw) (fun i j=>hH _ _)
  | succ s =>
   have h1:=BA n s (f:=fun i j=>f (i+1) j) (fun i j h=>hz _ _ aw) (fun i j=>hH _ _);have h2:=lM (f 0 (n+1)) (tri (fun i j=>f (i+1) j) n);have h3:=hH 0 (n+1);rw[Nat.succ_mul];omega
theorem G4 {N:Nat}:∀(n:Nat) {f:Nat->Nat->P Int},(∀ i j,aa (f i j)<=N)->aa (tri f n)<=N
 | 0,f,h=>h 0 0
 | n+1,f,h=>by
  simp only[tri];exact c8 (h _ _) (G4 n fun i j=>h _ _)
theorem IW:∀(n:Nat) (f:Nat->Nat->P Int),em (toQ (tri f n))=tri (fun i j=>em (toQ (f i j))) n
 | 0,f=>rfl
 | n+1,f=>by
  simp only[tri];rw[j7,un,IW n]
theorem PC.mul {w v k:Nat} {p q:P KQ} (h:PC w p) (h':PC v q) (hk:aa p<=2 ^ k):PC (w+v+k) (p*q):=by
 obtain⟨B,A,h1,h2,h3,h4,h5⟩:=h;obtain⟨B',A',k1,k2,k3,k4,k5⟩:=h';refine⟨B*B',fun n=>tri (fun i j=>A i*A' j) n,a6 h1 k1,fun n=>?_,?_,?_,fun n=>⟨?_,?_⟩⟩
 ·rw[IW,ia,mul_comm,<-rS];refine dZ fun i j _=>?_;rw[ck,oM,ck,oM,<-h2,<-k2];exact ring [p.c i,q.c j,em (toQ B),em (toQ B')]
 ·have:=fT h3 k3;omega
 ·exact ax (i7 _ _) (ax (bh h4 k4) (cS aw))
 ·exact ax (G4 (N:=w+v+1) n (f:=fun i j=>A i*A' j) fun i j=>fT (h5 i).1 (k5 j).1) aw
 ·have:=BA (H:=2 ^ (w+v)) n (aa p) (f:=fun i j=>A i*A' j) (fun i j hi=>by rw[Dh h2 (aO hi),zero_mul]) fun i j=>ax (i7 _ _) (bh (h5 i).2 (k5 j).2);refine ax this (ax (bh hk (ay _)) (cS aw))
theorem PC.add {w v:Nat} {p q:P KQ} (h:PC w p) (h':PC v q):PC (w+v+1) (p+q):=by
 obtain⟨B,A,h1,h2,h3,h4,h5⟩:=h;obtain⟨B',A',k1,k2,k3,k4,k5⟩:=h';refine⟨B*B',fun i=>A i*B'+A' i*B,a6 h1 k1,fun i=>?_,?_,?_,fun i=>⟨?_,?_⟩⟩
 ·rw[cf,ck,oM,j7,un,ck,oM,ck,oM,<-h2,<-k2];exact ring [p.c i,q.c i,em (toQ B),em (toQ B')]
 ·have:=fT h3 k3;omega
 ·exact ax (i7 _ _) (ax (bh h4 k4) (cS aw))
 ·refine c8 ?_ ?_
  ·have:=fT (h5 i).1 k3;omega
  ·have:=fT (k5 i).1 h3;omega
 ·have e1:=ax (i7 (A i) B') (bh (h5 i).2 k4);have e2:=ax (i7 (A' i) B) (bh (k5 i).2 h4);rw[Nat.add_comm v w]at e2;exact ax (lM _ _) (jT e1 e2)
theorem PC.neg {w:Nat} {p:P KQ} (h:PC w p):PC w (-p):=by
 obtain⟨B,A,h1,h2,h3,h4,h5⟩:=h;exact⟨B,fun i => -A i,h1,fun i=>by rw[vU,neg_mul,h2,ph,B3],h3,h4,fun i=>by rw[kq,qC];exact h5 i⟩
theorem PC.sub {w v:Nat} {p q:P KQ} (h:PC w p) (h':PC v q):PC (w+v+1) (p-q):=by rw[sub_eq];exact h.add h'.neg
theorem PC.C {w:Nat} {c:KQ} (h:FB w c):PC w (an c):=by
 obtain⟨A,B,h1,h2,h3,h4,h5,h6⟩:=h;refine⟨B,fun i=>if i=0 then A else 0,h1,fun i=>?_,h5,h6,fun i=>?_⟩
 ·cases i with
  | zero=>dsimp only;rw[if_pos rfl,nw,h2,vN (dv h1)]
  | succ i=>dsimp only;rw[if_neg aw,gS,zero_mul,cV,nU]
 ·dsimp only;split
  ·exact⟨h3,h4⟩
  ·exact⟨by rw[aM.2 rfl];omega,by rw[it];exact Nat.zero_le _⟩
theorem PC.lin {w:Nat} {c:KQ} (h:FB w c):PC w (ak-an c):=by
 obtain⟨A,B,h1,h2,h3,h4,h5,h6⟩:=h;refine⟨B,fun i=>if i=0 then -A else if i=1 then B else 0,h1,fun i=>?_,h5,h6,fun i=>?_⟩
 ·dsimp only;rw[za];by_cases h0:i=0
  ·rw[if_pos h0,if_pos h0,h2,neg_mul,vN (dv h1),ph,B3]
  ·rw[if_neg h0,if_neg h0];by_cases h9:i=1
   ·rw[if_pos h9,if_pos h9,one_mul]
   ·rw[if_neg h9,if_neg h9,zero_mul,cV,nU]
 ·dsimp only;split
  ·exact⟨by rw[kq];exact h3,by rw[qC];exact h4⟩
  ·split
   ·exact⟨h5,h6⟩
   ·exact⟨by rw[aM.2 rfl];omega,by rw[it];exact Nat.zero_le _⟩
theorem PV (n:Nat):n1 (nc n:P Int)<=n:=by
 induction n with
 | zero=>exact Nat.le_of_eq it
 | succ n ih =>
  have h1:n1 (1:P Int)<=1:=by
   rw[gv (n:=1) (by rw[show aa (1:P Int)=1 from jk (R:=Int) aH];exact ay _)];exact ay 1
  have:=lM (nc n:P Int) 1;show n1 (nc n+1:P Int)<=_;omega
theorem Qh (n:Nat):em (toQ (nc n:P Int))=(nc n:KQ):=by
 induction n with
 | zero=>exact(congrArg em cV).trans nU
 | succ n ih =>
  show em (toQ (nc n+1:P Int))=nc n+1;rw[j7,un,ih,pf,Om]
theorem Pz (n:Nat):aa (nc n:P Int)<=1:=by rw[<-O4];exact cq fun i hi=>by cases i with|zero=>omega|succ i=>rfl
theorem PC.der {w k:Nat} {p:P KQ} (h:PC w p) (hk:aa p<=2 ^ k):PC (w+k) (der p):=by
 obtain⟨B,A,h1,h2,h3,h4,h5⟩:=h;refine⟨B,fun i=>if aa p<=i then 0 else nc (i+1)*A (i+1),h1,fun i=>?_,aw,ax h4 (cS aw),fun i=>?_⟩
 ·dsimp only;rw[jP,mul_assoc,h2];split
  ·rename_i hi;rw[Dh h2 (aO (p:=p) (i:=i+1) aw),cV,nU,mul_zero]
  ·rw[ck,oM,Qh]
 ·dsimp only;split
  ·exact⟨by rw[aM.2 rfl];omega,by rw[it];exact Nat.zero_le _⟩
  ·rename_i hi;refine⟨?_,?_⟩
   ·have:=bf (nc (i+1):P Int) (A (i+1));have:=Pz (i+1);have:=(h5 (i+1)).1;omega
   ·refine ax (i7 _ _) ?_;rw[Nat.add_comm w k];exact bh (ax (PV _) aw) (h5 _).2
end Alg
namespace Go.AM
open Alg
open Go.Proofs
open Classical
theorem PC.pw {w:Nat} {p:KP} (h:Alg.PC w p):PW w p:=fun i=>h.fb i
theorem wD2 (w v:Nat) {n:Nat} (h:n<=2):wD w v n<=4*w+6*v+3:=by
 refine ax (lv w v h) ?_;simp only[wD];omega
theorem oY {p q:KP} {w v:Nat} (hq0:q≠0) (hp:PW w p) (hq:PW v q) (hn:aa p<=aa q+1) (hb:4*w+6*v+3<=1000) (hs:aa q<=900):Fn Tryz.prog 82 [ku p,ku q] [ku (ab p q)] :=
 KReP hq0 hp hq (ax (wD2 w v aw) hb) aw aw aw
theorem Gn {p q:KP} {w v:Nat} (hq0:q≠0) (hp:PW w p) (hq:PW v q) (hn:aa p<=aa q+1) (hb:4*w+6*v+3<=1000) (hs:aa q<=900):Fn Tryz.prog 81 [ku p,ku q] [ku (qu p q)] :=
 O2 hq0 hp hq (ax (wD2 w v aw) hb) aw aw aw
theorem Ei {a:KP} {w:Nat} (ha:PW w a) (hw:2*w<=1000) (hs:aa a<=900):Fn Tryz.prog 24 [ku a,ku 0] [ku (ai a 0)] :=
 xS (fun x hx=>by rw[jm]at hx;simp at hx) (by rw[nm];exact sv ha hw aw)
theorem Eh {a b:KP} {v:Nat} (hb0:b≠0) (hb:PW v b) (hv:2*v<=1000) (hs:aa b<=900) (hr:ab a b=0) (c1:Fn Tryz.prog 82 [ku a,ku b] [ku (ab a b)]):Fn Tryz.prog 24 [ku a,ku b] [ku (ai a b)] :=
 xS (fun x hx=>by rw[eu1 hb0 hr]at hx;simp at hx;subst hx;exact c1) (by rw[pM hb0,hr,nm];exact sv hb hv aw)
theorem Eg {a b r:KP} {v:Nat} (hb0:b≠0) (hr:ab a b=r) (hr0:r≠0) (h2:ab b r=0) (hw:PW v r) (hv:2*v<=1000) (hs:aa r<=900) (c1:Fn Tryz.prog 82 [ku a,ku b] [ku (ab a b)]) (c2:Fn Tryz.prog 82 [ku b,ku r] [ku (ab b r)]):Fn Tryz.prog 24 [ku a,ku b] [ku (ai a b)] :=
 xS (fun x hx=>by
  rw[eu2 hb0 hr hr0 h2]at hx;simp at hx;rcases hx with rfl|rfl
  ·exact c1
  ·exact c2) (by rw[pM hb0,hr,pM hr0,h2,nm];exact sv hw hv aw)
theorem QB1 (k:Nat) (h:2<=k):QB k 1:=⟨ax (fq (k:=1) aH) aw,ax (fq (k:=1) aH) aw⟩
def T1 (t:Tm):Prop:=cZ t.1/\t.1.lt 1099511627776/\t.2=1
theorem T1.tok {t:Tm} (h:T1 t):Tok t:=⟨h.1,h.2.1,by rw[h.2.2];decide,by rw[h.2.2];exact QB1 _ aw⟩
theorem T1.q {t:Tm} (h:T1 t) {k:Nat} (hk:2<=k):QB k t.2:=by rw[h.2.2];exact QB1 _ hk
theorem T1.l {t:Tm} (h:T1 t):t.1.lt 2305843009213693952:=by
 obtain⟨-,h,-⟩:=h;unfold Ex.lt at h ⊢;omega
abbrev ma:List Tm:=[(⟨1,0,0,0⟩,1)]
abbrev mb:List Tm:=[(⟨0,1,0,0⟩,1)]
abbrev mbb:List Tm:=[(⟨0,2,0,0⟩,1)]
abbrev mabb:List Tm:=[(⟨1,2,0,0⟩,1)]
abbrev mab:List Tm:=[(⟨1,1,0,0⟩,1)]
abbrev mab1:List Tm:=[(⟨1,1,0,0⟩,1),(e0,1)]
abbrev mL:List Tm:=[(⟨1,2,0,0⟩,1),(⟨0,1,0,0⟩,1)]
theorem oC (a b:Nat) (ha:a<=5) (hb:b<=5):T1 (⟨a,b,0,0⟩,1):=⟨by simp[cZ],by simp[Ex.lt];omega,rfl⟩
theorem qj {L:List Tm} (h:∃ l:List (Nat×Nat),L=l.map (fun p=>((⟨p.1,p.2,0,0⟩:Ex),(1:Rat)))/\∀ p∈l,p.1<=5/\p.2<=5):∀ t∈L,T1 t:=by
 obtain⟨l,rfl,h⟩:=h;intro t ht;obtain⟨p,hp,rfl⟩:=List.mem_map.1 ht;exact oC _ _ (h p hp).1 (h p hp).2
theorem PX (t u:Tm) (hu:u.2=1):tE [t] [u]=[(t.1.add u.1,t.2)]:=by
 simp only[tE,List.foldl_cons,List.foldl_nil,gT,fe,m8,hu,List.map_cons,List.map_nil];rw[if_neg aH,show t.2*(1:Rat)=t.2 from Rat.mul_one _]
theorem M7 (t u:Tm) (ht:T1 t) (hu:T1 u):Fn Tryz.prog 57 [iM [t],iM [u]] [iM [(t.1.add u.1,1)]]:=by
 have:=Ai [t] [u] au au (fun x hx=>by simp at hx;subst hx;exact ht.q aw) (fun x hx=>by simp at hx;subst hx;exact hu.q aw) (fun x hx=>by simp at hx;subst hx;exact ht.l) (fun x hx=>by simp at hx;subst hx;exact hu.l)
  (fun i hi=>by
   obtain rfl:i=0:=by simp at hi;omega
   refine⟨fun x hx=>by simp[tE]at hx,fun x hx=>?_,by simp[tE]⟩;simp only[List.getElem_cons_zero,fe,m8,hu.2.2,List.map_cons,List.map_nil]at hx;rw[if_neg aH]at hx;simp at hx;subst hx;rw[ht.2.2];exact QB1 _ aw)
 rwa [PX _ _ hu.2.2,ht.2.2]at this
theorem PE:Fn Tryz.prog 57 [iM mb,iM mb] [iM mbb]:=M7 _ _ (oC 0 1 aw aw) (oC 0 1 aw aw)
theorem MC:Fn Tryz.prog 57 [iM ma,iM mbb] [iM mabb]:=M7 _ _ (oC 1 0 aw aw) (oC 0 2 aw aw)
theorem Qu:gj mabb mb=mL:=by
 rw[jA,if_pos aH,gT]
theorem sML:Fn Tryz.prog 56 [iM mabb,iM mb] [iM mL]:=by
 have:=pZ mabb mb au (fun x hx=>by simp at hx;subst hx;exact QB1 _ aw) (fun x hx=>by simp at hx;subst hx;exact QB1 _ aw);rwa [Qu]at this
abbrev cs3:List F2:=[([],one1),(one1,one1),(ma,one1)]
theorem PG:Fn Tryz.prog 43 [iM mL,iN 1] [fl cs3]:=by
 have h:=wv mL 1 aw au (fun t ht=>by
  simp at ht;rcases ht with rfl|rfl
  ·exact⟨aH,aH⟩
  ·exact⟨aH,aH⟩) aH au
 rw[show pP mL 1=[[],one1,ma]by decide +kernel]at h;exact Mi (v:=1) au h
theorem Io (n:PQ):kr (Alg.em n)=fr2 (U n,one1):=by
 obtain⟨h1,h2⟩:=HV n;rw[kr,h1,h2,vY];rfl
theorem Du:kr 0=fr2 ([],one1):=by
 have:=Io 0;rwa [cp]at this
theorem U_Xm:U ak=ma:=Ac 1 aH
noncomputable abbrev xK:KQ:=Alg.em ak
theorem Ou:fl cs3=kl [0,1,xK]:=by
 have e1:kr 1=fr2 (one1,one1):=by
  have:=Io 1;rwa [vY]at this
 have e2:kr xK=fr2 (ma,one1):=by
  have:=Io ak;rwa [U_Xm]at this
 show IV.c (.lst _)=IV.c (.lst _);simp only[List.map_cons,List.map_nil,Du,e1,e2]
theorem M8 (a:List Tm) (u:Tm) (R:List Tm) (ha:∀ t∈a,T1 t) (hu:T1 u) (hl:a.length<=2) (hm:FC a [u]=R) (hq:∀ i<a.length,∀ e q,(e,q)∈sumM (a.take i) [u] []->q=1):Fn Tryz.prog 111 [iM a,iM [u]] [iM R]:=by
 have:=xP a [u] aw au (fun t ht=>(ha t ht).l) (fun t ht=>by simp at ht;subst ht;exact hu.l) (fun t ht=>(ha t ht).q aw) (fun t ht=>by simp at ht;subst ht;exact hu.q aw)
  (by
   intro i j hi hj;have hj':j<1:=hj;obtain rfl:j=0:=aw;refine⟨?_,fun e q hq'=>?_⟩
   ·show QB _ (a[i].2*u.2);rw[(ha _ (List.getElem_mem hi)).2.2,hu.2.2,show(1:Rat)*1=1 from Rat.mul_one 1];exact QB1 8589934592 aw
   ·rw[hq i hi e q hq'];exact QB1 _ aw)
 rwa [hm]at this
theorem same1:Fn Tryz.prog 138 [iM one1,iM one1] [iB true]:=by
 have:=Az one1 one1 au (fun t ht=>by simp at ht;subst ht;exact QB1 _ aw) (fun t ht=>by simp at ht;subst ht;exact QB1 _ aw);rwa [aF rfl]at this
theorem mul11:Fn Tryz.prog 111 [iM one1,iM one1] [iM one1]:=M8 one1 (e0,1) one1 (qj ⟨[(0,0)],rfl,au⟩) (oC 0 0 aw aw) au aE (fun i hi e q h=>by
 obtain rfl:i=0:=by simp at hi;omega
 simp[sumM]at h)
theorem JX (a:List Tm) (u:Tm) (R:List Tm) (ha:∀ t∈a,T1 t) (hu:T1 u) (hl:a.length<=2) (hm:FC a [u]=R) (hq:∀ i<a.length,∀ e q,(e,q)∈sumM (a.take i) [u] []->q=1) (hR:∀ t∈R,T1 t) (lR:R.length<=2) :
  Fn Tryz.prog 65 [iF a one1,iF [u] one1] [iF R one1]:=Ek (M8 a u R ha hu hl hm hq) mul11 (Ax R aw fun t ht=>(hR t ht).tok)
theorem JY (a b R:List Tm) (ha:∀ t∈a,T1 t) (hb:∀ t∈b,T1 t) (hla:a.length<=2) (hlb:b.length<=2) (hm:gj a b=R) (hR:∀ t∈R,T1 t) (lR:R.length<=2):Fn Tryz.prog 64 [iF a one1,iF b one1] [iF R one1]:=by
 have h:=xQ a b aw (fun t ht=>(ha t ht).q aw) (fun t ht=>(hb t ht).q aw);rw[hm]at h;exact El (qf same1 h (Ax R aw fun t ht=>(hR t ht).tok)) ⟨_,_,rfl⟩ ⟨_,_,rfl⟩ ⟨_,_,rfl⟩
def oT:Nat->F2
 | 0=>([],one1)
 | 1=>(ma,one1)
 | 2=>(mab1,one1)
 | _=>(mL,one1)
theorem sTo:Fn Tryz.prog 48 [fl cs3,iN 1] [iF mL one1]:=by
 have ta:∀ t∈ma,T1 t:=qj ⟨[(1,0)],rfl,au⟩;have t1:∀ t∈one1,T1 t:=qj ⟨[(0,0)],rfl,au⟩;have tab:∀ t∈mab,T1 t:=qj ⟨[(1,1)],rfl,au⟩;have tab1:∀ t∈mab1,T1 t:=qj ⟨[(1,1),(0,0)],rfl,au⟩;have tL:∀ t∈mL,T1 t:=qj ⟨[(1,2),(0,1)],rfl,au⟩;have t0:∀ t∈([]:List Tm),T1 t:=au;have tb:T1 (⟨0,1,0,0⟩,1):=oC 0 1 aw aw;refine QC cs3 1 aw au oT ?_ fun k hk=>?_
 ·have:=cA 0 aH;have e:IV.g (fr2 (oT 0))=iK (kn 0):=by
   rw[fJ];show IV.g (fr2 ([],one1))=IV.g (kr 0);rw[Du]
  rw[e];exact this
 ·have hk3:k<3:=hk;obtain rfl|rfl|rfl:k=0\/k=1\/k=2:=aw
  ·exact⟨([],one1),JX [] _ [] t0 tb au aE (fun i hi=>absurd hi au) t0 au,JY [] ma ma t0 ta au au (gT _) ta au⟩
  ·refine⟨(mab,one1),JX ma _ mab ta tb au aE (fun i hi e q h=>?_) tab au,JY mab one1 mab1 tab t1 au au ?_ tab1 au⟩
   ·obtain rfl:i=0:=by simp at hi;omega
    simp[sumM]at h
   ·rw[jA,if_pos aH,gT]
  ·refine⟨(mL,one1),JX mab1 _ mL tab1 tb au aE (fun i hi e q h=>?_) tL au,JY mL [] mL tL t0 au au (jz _) tL au⟩;have hi':i<2:=hi;obtain rfl|rfl:i=0\/i=1:=aw
   ·simp[sumM]at h
   ·simp[sumM,rowM,addT]at h;exact h.2
theorem PD:Fn Tryz.prog 49 [iM mL] [iF mL one1]:=by
 have:=wi mL;rwa [vY]at this
theorem NN:Fn Tryz.prog 41 [iF mL one1,iF mL one1] [iB true]:=by
 have tq:∀ L:List Tm,(L=mL\/L=one1)->∀ t∈L,QB 17179869184 t.2:=fun L hL t ht=>by
  rcases hL with rfl|rfl<;>simp at ht
  ·rcases ht with rfl|rfl<;>exact QB1 _ aw
  ·subst ht;exact QB1 _ aw
 have e1:=qR mL mL au (tq _ (.inl rfl)) (tq _ (.inl rfl));have e2:=qR one1 one1 au (tq _ (.inr rfl)) (tq _ (.inr rfl));rw[aF rfl]at e1 e2;have h87:Fn Tryz.prog 87 [iF mL one1,iF mL one1] [iB true]:=by
  refine aJ (fn:=Tryz.f87) ?_;simp -dsimp only[go_sem,Int.reduceToNat,Int.reduceLE,aC];refine ao e1 rfl ?_;simp -dsimp only[go_sem,Int.reduceToNat,Int.reduceLE,aC];refine ao e2 rfl ?_;simp -dsimp only[go_sem]
 refine aJ (fn:=Tryz.f41) ?_;simp -dsimp only[go_sem];refine ao h87 rfl ?_;simp -dsimp only[go_sem]
end Go.AM
namespace Alg
open Classical
section
variable {F:Type} [CR F] [Fd F]
theorem KW (a b:F):(ak-an a)-(ak-an b)=an (b-a):=by rw[Na];exact ring [ak,an a,an b]
theorem NL {a b:F} (h:a≠b):b-a≠0:=fun e=>h (by
 have:=congrArg (· + a) e;simp only[sub_eq,zero_add]at this;rw[add_assoc,neg_add,add_zero]at this;exact this.symm)
theorem div9 {t:F} (ht:t*ic 9=1) (f g:P F):f*g=an t*(f+f+g)*(g+g+f)+(-(an t*ic 2*(f-g)*(f-g))):=by
 have e:an t*(ic 9:P F)=1:=by rw[<-QG,<-bH,ht,cw]
 have h:f*g*(an t*ic 9)=an t*(f+f+g)*(g+g+f)+(-(an t*ic 2*(f-g)*(f-g))):=ring [f,g,an t];rwa [e,mul_one]at h
theorem N8 {t a b:F} : -(an t*ic 2*((ak-an a)-(ak-an b))*((ak-an a)-(ak-an b)))=an (-(t*ic 2*(b-a)*(b-a))):=by
 rw[KW,lj,bH,bH,bH,QG]
theorem Ic (c:F):(ak-an c).c 1=1:=by rw[za,if_neg aw,if_pos rfl]
theorem mM (a b:F) (h3:(ic 3:F)≠0):aa ((ak-an b)+(ak-an b)+(ak-an a))=2:=j8 (fun i hi=>by rw[cf,cf,aO (by rw[ff];omega),aO (by rw[ff];omega),add_zero,add_zero]) fun _=>by
 show((ak-an b)+(ak-an b)+(ak-an a)).c 1≠0;rw[cf,cf,Ic,Ic];intro e;refine h3 ?_;rw[<-e];exact ring []
theorem k_ne {t a b:F} (h:a≠b) (ht:t≠0) : -(t*(b-a)*(b-a))≠0:=fun e=>by
 have h1:=NL h;have h2:t*(b-a)*(b-a)=0:=by
  have:=congrArg (fun x => -x) e;rwa [neg_neg,gG]at this
 exact a6 (a6 ht h1) h1 h2
end
end Alg
namespace Go.AM
open Alg
open Go.Proofs
open Classical
theorem fL:xK≠0:=DN fun h=>by
 have:=congrArg aa h;rw[aM.2 rfl,show(ak:PQ)=mon 1 1 from rfl,mJ 1 aH]at this;omega
theorem eB:FB 1 xK:=by
 refine⟨ak,1,fo (R:=Int) aH,?_,?_,?_,?_,?_⟩
 ·rw[pf];show xK=Alg.em (toQ ak);rw[show(toQ ak:PQ)=ak from nK 1 1]
 ·rw[show(ak:Alg.P Int)=mon 1 1 from rfl,mJ 1 aH];omega
 ·rw[gv (n:=2) (by rw[show(ak:Alg.P Int)=mon 1 1 from rfl,mJ 1 aH];omega)];exact(by decide:1<=2)
 ·rw[show aa (1:Alg.P Int)=1 from jk (R:=Int) aH];omega
 ·rw[gv (n:=1) (by rw[show aa (1:Alg.P Int)=1 from jk (R:=Int) aH];exact ay _)];exact(by decide:1<=2)
theorem vG {l:List KQ} (h:∀ h:l.length-1<l.length,l[l.length-1]≠0):kl l=ku (ac l):=by
 rw[ku,<-DT (l:=l) (p:=ac l) (fun i hi=>by rw[rL];simp[List.getD,hi]) (fun i hi=>by rw[rL];simp[List.getD,List.getElem?_eq_none hi]) h]
theorem pl2 (a b:KQ):ac [a,b]=an a+an b*ak:=Alg.P.ext fun i=>by
 rw[rL,cf,bR,X_c]
 match i with
 | 0=>rw[if_neg aw,mul_zero,add_zero];rfl
 | 1=>rw[if_pos rfl,mul_one,gS,zero_add];rfl
 | i+2=>rw[if_neg aw,mul_zero,gS,zero_add];rfl
theorem pl1 (a:KQ):ac [a]=an a:=Alg.P.ext fun i=>by
 match i with
 | 0=>rfl
 | i+1=>rw[gS];rfl
theorem uT:PW 0 (ak:KP):=fun i=>by
 rw[X_c];split
 ·exact i5 (z:=1) aH
 ·exact dK 0
theorem vl {w:Nat} {c:KQ} (h:FB w c):PW w (an c):=fun i=>by
 cases i with
 | zero=>exact h
 | succ i=>exact dK w
theorem CB:PW 0 (1:KP):=vl (i5 (z:=1) aH)
theorem j9:aa (ak:KP)=2:=mJ 1 one_ne
theorem Im:kl [kn 0,kn 1]=ku ak:=by
 rw[vG (fun _=>zf aH),pl2,fJ,fg,cB,zero_add,cw,one_mul]
noncomputable abbrev yK:KQ:=Alg.inv xK
theorem xy:(an xK:KP)*an yK=1:=by rw[<-bH,mul_inv fL,cw]
theorem mA:FB 1 yK:=eB.inv fL
theorem yb:yK≠0:=ft fL
noncomputable abbrev dQ:KP:=an (-(yK*yK))+an yK*ak
theorem Kq:(ak*ak:KP)=dQ*(an 1+an xK*ak)+an (yK*yK):=by
 have h:dQ*(an 1+an xK*ak)+an (yK*yK)=(ak*ak:KP)-(1-an xK*an yK)*(ak*ak-an yK*ak):=by
  rw[dQ,lj,bH,cw];exact ring [ak,an xK,an yK]
 rw[h,xy,sub_self,zero_mul,sub_zero]
theorem CY:aa (an 1+an xK*ak:KP)=2:=j8 (fun i hi=>by
 rw[cf,bR,X_c,if_neg aw,mul_zero,add_zero];cases i with
 | zero=>omega
 | succ i=>rfl) fun _=>by
 show(an 1+an xK*ak:KP).c 1≠0;rw[cf,bR,X_c,if_pos rfl,mul_one,gS,zero_add];exact fL
theorem jF (c:KQ):aa (an c:KP)<=1:=cq fun i hi=>by cases i with|zero=>omega|succ i=>rfl
theorem JC {c:KQ} {w:Nat} (h:FB w c):PW w (an c*ak:KP):=by
 have:=uT.scale h;rwa [mul_comm,Nat.zero_add]at this
theorem QE:PW 2 (an 1+an xK*ak:KP):=(vl (i5 (z:=1) (w:=0) aH)).add (JC eB)
theorem NO:Fn Tryz.prog 14 [ku ak,ku ak] [ku (ak*ak)]:=Au uT uT (by rw[j9];omega) (by rw[j9];omega) (by rw[j9];omega) aw aw
theorem sDiv:Fn Tryz.prog 18 [ku (ak*ak),ku (an 1+an xK*ak)] [ku dQ,ku (an (yK*yK)),iN 0]:=by
 have hq0:(an 1+an xK*ak:KP)≠0:=fun h=>by have:=CY;rw[h,aM.2 rfl]at this;omega
 have hsz:aa (ak*ak:KP)<=3:=by have:=bf (ak:KP) ak;rw[j9]at this;omega
 have h:=uW hq0 (MG uT uT) QE (by
  rw[j9,CY];exact ax (wD2 _ _ aw) aw) aw aw (by rw[CY];omega)
 obtain⟨e1,e2⟩:=kf Kq (by rw[CY];have:=jF (yK*yK);omega);rwa [e1,e2]at h
noncomputable abbrev lX:KP:=ak-an xK
theorem mi {w:Nat} {c:KQ} (h:FB w c):PW w (ak-an c:KP):=PC.pw (Alg.PC.lin h)
theorem N3:kl [-xK,kn 1]=ku lX:=by
 rw[vG (fun _=>zf aH),pl2,fg,lj,cw,one_mul];show ku _=ku _;rw[show -an xK+ak=(lX:KP)from ring [an xK,ak]]
theorem ML:kl [kn 1]=ku 1:=Dt.symm
theorem reX:ab ak lX=an xK:=tg (q:=1) (ring [ak,an xK]) (by rw[ff];have:=jF xK;omega)
theorem PF:Fn Tryz.prog 24 [ku ak,ku lX] [ku (ai ak lX)] :=
 Eg (jJ _) reX (fo fL) (Alg.gD fL) (vl eB) aw (by have:=jF xK;omega) (oY (jJ _) uT (mi eB) (by rw[j9,ff];omega) aw (by rw[ff];omega))
  (oY (fo fL) (mi eB) (vl eB) (by rw[ff,jk fL];omega) aw (by have:=jF xK;omega))
theorem gdX:ai ak lX=1:=by rw[gd2 (jJ _) reX (fo fL) (Alg.gD fL),NY fL]
theorem CZ {c:KQ} (h:c≠0):aa (an c:KP)=1:=jk h
theorem Ko:Fn Tryz.prog 28 [ku ak,ku lX,ku 1] [ku (an yK),ku (-an yK),iN 0]:=by
 have h1:qu 1 (ab ak lX)=an yK:=by
  rw[reX];exact mV (fo fL) (by rw[mul_comm,xy])
 have szl:aa lX=2:=ff _;have s1:aa (1:KP)=1:=mX;have e1:(1:KP)*an yK=an yK:=one_mul _;have hre:ab (1*an yK) lX=an yK:=tg (q:=0) (by rw[zero_mul,zero_add,e1]) (by rw[szl];have:=jF yK;omega);have wy:PW 1 (an yK:KP):=vl mA;have wyX:PW 2 (an yK*ak:KP):=(JC mA).mono aw;have hsm:=bf (an yK:KP) ak;rw[j9]at hsm;have sy:=jF yK;have hq:qu (1-an yK*ak) lX = -an yK:=mV (jJ _) (by
  have : -an yK*lX=an xK*an yK-an yK*ak:=ring [ak,an xK,an yK];rw[this,xy])
 refine CD PF (by rw[gdX,mX]) szl (by rw[reX,CZ fL]) (oY (jJ _) uT (mi eB) (by rw[j9,szl];omega) aw (by rw[szl];omega)) ?_ ?_ ?_ ?_ ?_ ?_
 ·rw[reX];exact Gn (fo fL) CB (vl eB) (by rw[s1,CZ fL];omega) aw (by rw[CZ fL];omega)
 ·rw[h1];exact Au CB wy (by rw[s1];omega) (by rw[s1];omega) aw aw aw
 ·rw[h1];have:=oY (p:=1*an yK) (jJ xK) (by rw[e1];exact wy) (mi eB) (by rw[e1,ff];omega) aw (by rw[ff];omega);rwa [hre]at this
 ·exact Au wy uT (ax (Nat.mul_le_mul_right _ sy) aw) aw (by rw[j9];omega) aw aw
 ·exact JH CB wyX aw (by rw[s1];omega) aw
 ·have:=Gn (p:=1-an yK*ak) (jJ xK) (CB.sub wyX) (mi eB) (by
   rw[ff];have:=gt (p:=(1:KP)) (q:=an yK*ak) (n:=2) (by rw[s1];omega) aw;omega) aw (by rw[ff];omega)
  rwa [hq]at this
theorem Kn:Fn Tryz.prog 28 [ku ak,ku ak,ku 1] [ku 0,ku 0,iN 60]:=by
 have hX:(ak:KP)≠0:=fun h=>by have:=j9;rw[h,aM.2 rfl]at this;omega
 have hr:ab (ak:KP) ak=0:=wY (q:=1) hX (one_mul _).symm;refine Gm (Eh hX uT aw (by rw[j9];omega) hr (oY hX uT uT aw aw (by rw[j9];omega))) ?_;rw[gd1 hX hr,Di,j9];omega
noncomputable abbrev sq1:KP:=1+ak*ak
theorem NM:kl [kn 1,kn 0,kn 1]=ku sq1:=by
 rw[vG (fun _=>zf aH)];show ku _=ku _;congr 1;have:ac [kn 1,kn 0,kn 1]=(1+ak*ak:KP):=Alg.P.ext fun i=>by
  rw[rL,cf,show(ak*ak:KP)=mon 1 1*mon 1 1 from rfl,dP,bX,mul_one,fJ,fg]
  match i with
  | 0=>rw[if_neg aw,add_zero];rfl
  | 1=>rw[if_neg aw,add_zero];rfl
  | 2=>rw[if_pos rfl];exact(zero_add _).symm
  | i+3=>rw[if_neg aw,add_zero];rfl
 rw[this]
theorem C2 (i:Nat):sq1.c i=if i=0\/i=2 then 1 else 0:=by
 rw[cf,show(ak*ak:KP)=mon 1 1*mon 1 1 from rfl,dP,bX,mul_one]
 match i with
 | 0=>rw[if_neg aw,add_zero];rfl
 | 1=>rw[if_neg aw,add_zero];rfl
 | 2=>rw[if_pos rfl];exact zero_add _
 | i+3=>rw[if_neg aw,add_zero];rfl
theorem i6:aa sq1=3:=j8 (fun i hi=>by rw[C2,if_neg aw]) fun _=>by rw[C2,if_pos aw];exact one_ne
theorem xd:lc sq1=1:=by rw[lc,i6,C2,if_pos aw]
theorem JB:PW 0 sq1:=fun i=>by
 rw[C2];split
 ·exact i5 (z:=1) aH
 ·exact dK 0
noncomputable abbrev kR:KQ:=1+xK*xK
theorem FB1 (w:Nat):FB w 1:=(i5 (z:=1) (w:=0) aH).mono (Nat.zero_le w)
theorem tV:FB 4 kR:=((FB1 0).add (eB.mul eB)).mono aw
theorem vH:kR≠0:=fun h=>by
 have h1:(Alg.em (1+ak*ak):KQ)=Alg.em 0:=by
  rw[un,oM];exact h
 have h2:=congrArg (fun p=>p.c 0) (xn h1);rw[show(ak*ak:PQ)=mon 1 1*mon 1 1 from rfl,dP]at h2;exact absurd h2 aE
theorem NS:ab lX sq1=lX:=tg (q:=0) (by rw[zero_mul,zero_add]) (by rw[ff,i6];omega)
theorem NR:ab sq1 lX=an kR:=tg (q:=ak+an xK) (by
 rw[Em,bH,cw];exact ring [ak,an xK]) (by rw[ff];have:=jF kR;omega)
theorem sRes:Fn Tryz.prog 35 [ku lX,ku sq1] [iK (kz 1+xK*xK)]:=by
 have sl:aa lX=2:=ff _;have ll:lc lX=1:=BG _;have hq0:sq1≠0:=fun h=>by have:=i6;rw[h,aM.2 rfl]at this;omega
 have he:eu lX sq1=[(lX,sq1),(sq1,lX),(lX,an kR)]:=eu3 hq0 NS (jJ _) NR (fo vH) (Alg.gD vH);have sk:aa (an kR:KP)=1:=CZ vH;have pw1:∀ n,Alg.pw (1:KQ) n=1:=fun n=>by
  induction n with
  | zero=>rfl
  | succ n ih=>simp only[Alg.pw,ih,mul_one]
 have o1:mv lX sq1 1=1:=by
  rw[qy (x:=(lX,sq1)) (by rw[he];rfl)];simp only[xd,pw1,sgR,sl,i6];rw[if_neg aw];exact mul_one _
 have o2:mv lX sq1 2=1:=by
  rw[qy (x:=(sq1,lX)) (by rw[he];rfl)];simp only[ll,pw1,sgR,sl,i6,o1];rw[if_neg aw];exact mul_one _
 have lk:lc (an kR:KP)=kR:=oJ _;have pk:Alg.pw kR 1=kR:=by simp only[Alg.pw,one_mul,mul_one]
 have f1:FW (1:KQ):=FB1 1000;have fk:FW kR:=tV.mono aw;have h:=Me (a:=lX) (b:=sq1) (m:=2) (z:=(lX,an kR)) (jJ _) hq0 aw (by rw[i6];omega) (by rw[he];rfl) (by rw[he];rfl) fun k x hx=>by
  rw[he]at hx
  match k,hx with
  | 0,hx =>
   simp at hx;subst hx;exact⟨oY hq0 (mi eB) JB (by rw[sl,i6];omega) aw (by rw[i6];omega),by dsimp only;omega,by rw[i6];omega,by rw[xd];exact f1,f1,by rw[xd,pw1];exact f1,by rw[xd,pw1];exact(FB1 0).mul (FB1 1000) |>.mono aw,fun h=>absurd h (by rw[i6];omega)⟩
  | 1,hx =>
   simp at hx;subst hx;exact⟨oY (jJ _) JB (mi eB) (by rw[sl,i6];omega) aw (by rw[sl];omega),by rw[i6];omega,by dsimp only;omega,by rw[ll];exact f1,by rw[o1];exact f1,by rw[ll,pw1];exact f1,by rw[ll,pw1,o1];exact(FB1 0).mul (FB1 1000) |>.mono aw,fun h=>absurd h (by rw[sl];omega)⟩
  | 2,hx =>
   simp at hx;subst hx;exact⟨oY (fo vH) (mi eB) (vl tV) (by rw[sl,sk];omega) aw (by rw[sk];omega),by dsimp only;omega,by rw[sk];omega,by rw[lk];exact fk,by rw[o2];exact f1,by
    rw[lk,Alg.gD vH,sl,aM.2 rfl];simp only[Alg.pw,one_mul];exact(tV.mul tV).mono aw,by
    rw[lk,Alg.gD vH,sl,aM.2 rfl,o2];simp only[Alg.pw,one_mul];exact(tV.mul tV).mono aw,fun _=>by
    rw[lk,sl,o2];show FW (Alg.pw kR 1)/\FW (1*Alg.pw kR 1);rw[pk,one_mul];exact⟨fk,fk⟩⟩
  | n+3,hx=>simp at hx
 rw[Fh,if_pos sk,o2,lk,sl]at h;rw[show Alg.pw kR (2-1)=kR from pk,one_mul]at h;exact h
theorem SqOf {p P D G Q1 Q2:KP} {m w wp wg wd:Nat} {out:List (KP×Nat)} (hp2:2<=aa p) (hs:aa p<=5) (hm:m<=1000) (wp0:PW wp p) (hwp:2*wp<=1000) (hP:mn p=P) (wP:PW w P) (hw:w<=990) (hD:der P=D) (wD0:PW wd D) (hG:ai P D=G)
  (cG:Fn Tryz.prog 24 [ku P,ku D] [ku (ai P D)]) (wG:PW wg G) (hwg:wg<=1000) (hG0:G≠0) (e1:P=Q1*G) (e2:D=Q2*G) (b1:wD w wg (aa P+1-aa G)<=1000) (b2:wD wd wg (aa D+1-aa G)<=1000) (hsG:aa G<=900)
  (hR:SqR m 1 Q1 Q2 out):Fn Tryz.prog 31 [ku p] [.c (.lst (out.map sqr))]:=by
 have sP:aa P=aa p:=by rw[<-hP,Di]
 have sD:aa D<=aa P-1:=by rw[<-hD];exact B8 P
 have q1:=mV hG0 e1;have q2:=mV hG0 e2;subst hP hD hG;refine CC hp2 hm (sv wp0 hwp aw) (CF wP aw aw) cG (O2 hG0 wP wG b1 hwg aw aw) (O2 hG0 wD0 wG b2 hwg aw aw) ?_;rw[q1,q2];exact hR
theorem OT {b:KP} {n w:Nat} (wb:PW w b) (hw:24*w+7<=1000) (hl:lc b=1) (hs:2<=aa b) (hs':aa b<=5):SqR 1 n b (der b) [(b,n)]:=by
 have hb0:b≠0:=fun h=>by rw[h,aM.2 rfl]at hs;omega
 have e0:der b-der b=0:=sub_self _;have eg:ai b (der b-der b)=b:=by rw[e0,kh,pC hl]
 have wd:=MZ wb aw;have sd:=B8 b;have q1:qu b b=1:=mV hb0 (one_mul _).symm;have q2:qu 0 b=0:=mV hb0 (zero_mul _).symm;have w0:PW 0 (0:KP):=fun i=>dK 0;have s0:aa (0:KP)=0:=aM.2 rfl;have step:=SqR.step (m:=0) (n:=n) (b:=b) (c:=der b) (out:=[]) aw (CF wb aw aw) (JH wd wd aw aw aw) (by rw[e0];exact Ei wb aw aw)
  (by rw[eg];exact Gn hb0 wb wb aw aw aw) (by rw[eg,e0];exact Gn hb0 w0 wb aw aw aw) (by rw[eg,e0,q1,q2];exact SqR.stop (by rw[mX];omega))
 rw[eg,if_pos aw]at step;exact step
theorem OR {b c d g:KP} {m n w v u k:Nat} {out:List (KP×Nat)} (wb:PW w b) (wc:PW v c) (wd:PW u d) (wg:PW k g) (hw:w+10+v+1<=1000) (hs:2<=aa b) (hs':aa b<=3) (hsc:aa c<=3) (hd:c-der b=d) (hg:ai b d=g) (hsg:aa g=2) (hsd:aa d<=3) {q1 q2:KP}
  (cG:Fn Tryz.prog 24 [ku b,ku d] [ku (ai b d)]) (hb1:4*w+6*k+3<=1000) (hb2:4*u+6*k+3<=1000) (e1:b=q1*g) (e2:d=q2*g) (hR:SqR m (n+1) q1 q2 out):SqR (m+1) n b c ((g,n)::out):=by
 have hg0:g≠0:=fun h=>by rw[h,aM.2 rfl]at hsg;omega
 have h1:=mV hg0 e1;have h2:=mV hg0 e2;have sd:=B8 b;have step:=SqR.step (m:=m) (n:=n) (b:=b) (c:=c) (out:=out) aw (CF wb aw aw) (JH wc (MZ wb aw) aw aw aw) (by rw[hd];exact cG)
  (by rw[hd,hg];exact Gn hg0 wb wg aw hb1 aw) (by rw[hd,hg];exact Gn hg0 wd wg aw hb2 aw) (by rw[hd,hg,h1,h2];exact hR)
 rw[hd,hg,if_pos aw]at step;exact step
theorem MN (n:Nat):(ic (n:Int):KQ)=kn (n:Int):=by rw[Iw,Dx]
theorem t7 {n:Nat} (h:n≠0):(ic (n:Int):KQ)≠0:=by rw[MN];exact zf aw
theorem MO {n w:Nat} (h:n<=2 ^ w):FB w (ic (n:Int):KQ):=by rw[MN];exact i5 (by simpa using h)
noncomputable abbrev t4:KQ:=Alg.inv (ic 4)
noncomputable abbrev t9:KQ:=Alg.inv (ic 9)
theorem Px:FB 4 t9:=(MO (n:=9) aH).inv (t7 (n:=9) aH)
theorem NJ:t9*ic 9=1:=cJ (t7 (n:=9) aH)
section
variable {a b:KQ}
noncomputable abbrev LN (c:KQ):KP:=ak-an c
theorem rt (c:KQ):aa (LN c)=2:=ff c
theorem kS (c:KQ):LN c≠0:=jJ c
theorem y9 (c:KQ):lc (LN c)=1:=BG c
theorem tN (c:KQ):der (LN c)=1:=KX c
theorem szm {p q:KP} (hp:p≠0) (hq:q≠0):aa (p*q)=aa p+aa q-1:=dw hp hq
theorem lcm1 {p q:KP} (hp:lc p=1) (hq:lc q=1):lc (p*q)=1:=by rw[gH,hp,hq,one_mul]
theorem CX (p:KP) {c:KQ} (hc:c≠0):aa (p*an c)=aa p:=by rw[mul_comm,bV hc]
theorem MJ {p:KP} {c:KQ} (hc:c≠0) (hl:lc p=1):mn (p*an c)=p:=by rw[mul_comm,y3 hc,pC hl]
theorem Hs {p g q:KP} {c:KQ} (hc:c≠0) (hg:g≠0) (h:p=q*g):ab p (g*an c)=0:=by
 refine wY (q:=q*an (Alg.inv c)) (a6 hg (fo hc)) ?_;have e:(an c:KP)*an (Alg.inv c)=1:=by rw[<-bH,mul_inv hc,cw]
 have h2:q*an (Alg.inv c)*(g*an c)=q*g*(an c*an (Alg.inv c)):=ring [q,g,an c,an (Alg.inv c)];rw[h2,e,mul_one,h]
noncomputable abbrev k11 (a b:KQ):KQ := -(t4*(b-a)*(b-a))
noncomputable abbrev k21 (a b:KQ):KQ := -(t9*ic 2*(b-a)*(b-a))
theorem xh (h:a≠b):k21 a b≠0:=k_ne h (a6 (ft (t7 (n:=9) aH)) (t7 (n:=2) aH))
theorem N7 (ha:FB 8 a) (hb:FB 8 b):FB 39 (k21 a b):=(((Px.mul (MO (n:=2) (w:=1) aH)).mul (hb.sub ha)).mul (hb.sub ha)).neg.mono aw
theorem d21:der (LN a*LN a*LN b)=LN a*(LN b+LN b+LN a):=by
 rw[xq,xq,tN,tN];exact ring [LN a,LN b]
theorem re21:ab (LN a*LN a*LN b) (LN a*(LN b+LN b+LN a))=LN a*an (k21 a b):=by
 have h3:aa (LN b+LN b+LN a)=2:=mM a b (t7 (n:=3) aH);have hn:LN b+LN b+LN a≠0:=fun h=>by rw[h,aM.2 rfl]at h3;omega
 have h9:=div9 NJ (LN a) (LN b);rw[N8]at h9;refine tg (q:=an t9*(LN a+LN a+LN b)) ?_ ?_
 ·have e1:LN a*LN a*LN b=LN a*(LN a*LN b):=mul_assoc _ _ _;rw[e1,h9];exact ring [LN a,LN b,an t9,an (k21 a b)]
 ·rw[szm (kS a) hn,h3,rt];have:=bf (LN a) (an (k21 a b));have:=jF (k21 a b);rw[rt]at *
  omega
theorem gd21 (h:a≠b):ai (LN a*LN a*LN b) (LN a*(LN b+LN b+LN a))=LN a:=by
 have h3:aa (LN b+LN b+LN a)=2:=mM a b (t7 (n:=3) aH);have hn:LN b+LN b+LN a≠0:=fun h=>by rw[h,aM.2 rfl]at h3;omega
 rw[gd2 (a6 (kS a) hn) re21 (a6 (kS a) (fo (xh h))) (Hs (xh h) (kS a) (mul_comm _ _)),MJ (xh h) (y9 a)]
theorem yP (ha:FB 8 a):Alg.PC 8 (LN a):=Alg.PC.lin ha
theorem HE (ha:FB 8 a) (hb:FB 8 b):Alg.PC 17 (LN a*LN b):=(yP ha).mul (yP hb) (k:=1) (by rw[rt];decide)
theorem HF (ha:FB 8 a) (hb:FB 8 b):Alg.PC 27 (LN a*LN a*LN b):=(HE ha ha).mul (yP hb) (k:=2) (by rw[szm (kS a) (kS a),rt];decide)
theorem Sq21 {c:KQ} (hab:a≠b) (ha:FB 8 a) (hb:FB 8 b) (hc0:c≠0) (hc:FB 8 c):Fn Tryz.prog 31 [ku (LN a*LN a*LN b*an c)] [.c (.lst ([(LN b,1),(LN a,2)].map sqr))]:=by
 have na:=kS a;have nb:=kS b;have naa:=a6 na na;have nP:=a6 naa nb;have sa:=rt a;have sb:=rt b;have sP:aa (LN a*LN a*LN b)=4:=by rw[szm naa nb,szm na na,sa,sb]
 have lP:lc (LN a*LN a*LN b)=1:=lcm1 (lcm1 (y9 a) (y9 a)) (y9 b);have h3:aa (LN b+LN b+LN a)=2:=mM a b (t7 (n:=3) aH);have n3:LN b+LN b+LN a≠0:=fun h=>by rw[h,aM.2 rfl]at h3;omega
 have sD:aa (LN a*(LN b+LN b+LN a))=3:=by rw[szm na n3,sa,h3]
 have nD:=a6 na n3;have wP:=PC.pw (HF ha hb);have wDD:PW 29 (LN a*(LN b+LN b+LN a)):=by
  have:=PC.pw ((HF ha hb).der (k:=2) (by rw[sP];decide));rwa [d21]at this
 have k0:=xh hab;have wr:PW 47 (LN a*an (k21 a b)):=(PC.pw (yP ha)).scale (N7 ha hb);have nr:=a6 na (fo k0);have sr:aa (LN a*an (k21 a b))=2:=by rw[CX _ k0,sa]
 have rr:ab (LN a*(LN b+LN b+LN a)) (LN a*an (k21 a b))=0:=Hs k0 na (mul_comm _ _);have cG:=Eg nD re21 nr rr wr aw aw (oY nD wP wDD aw aw aw) (oY nr wDD wr aw aw aw);have wa:=PC.pw (yP ha);have wb:=PC.pw (yP hb);have wab:=PC.pw (HE ha hb);have wfg:PW 17 (LN a+LN b):=by
  have:=wa.add wb;exact this
 have dab:der (LN a*LN b)=LN a+LN b:=by
  rw[xq,tN,tN];exact ring [LN a,LN b]
 have wc:PW 35 (LN b+LN b+LN a):=((wb.add wb).add wa).mono aw;refine SqOf (P:=LN a*LN a*LN b) (D:=LN a*(LN b+LN b+LN a)) (G:=LN a) (Q1:=LN a*LN b) (Q2:=LN b+LN b+LN a) (m:=2) (wp:=35) (w:=27) (wg:=8) (wd:=29) ?_ ?_ aw (wP.scale hc) aw (MJ hc0 lP) wP aw d21 wDD (gd21 hab) cG wa aw na (ring [LN a,LN b]) (mul_comm _ _) ?_ ?_ aw ?_
 ·rw[CX _ hc0,sP];omega
 ·rw[CX _ hc0,sP];omega
 ·rw[sP,sa];simp only[wD];omega
 ·rw[sD,sa];simp only[wD];omega
 ·have e0:LN b+LN b+LN a-der (LN a*LN b)=LN b:=by
   rw[dab];exact ring [LN a,LN b]
  have rg:ab (LN a*LN b) (LN b)=0:=wY nb rfl;have eg:ai (LN a*LN b) (LN b)=LN b:=by rw[gd1 nb rg,H4]
  have last:SqR 1 2 (LN a) 1 [(LN a,2)]:=by
   have:=OT (n:=2) wa aw (y9 a) aw aw;rwa [tN]at this
  have sab:aa (LN a*LN b)=3:=by rw[szm na nb,sa,sb]
  exact OR (u:=8) (k:=8) wab wc wb wb aw aw aw aw e0 eg sb aw (Eh nb wb aw aw rg (oY nb wab wb aw aw aw)) aw aw rfl (one_mul _).symm last
end
theorem Qa:kl [kn 1,xK]=ku (an 1+an xK*ak):=by rw[vG (fun _=>fL),pl2,fg]
theorem gu {p:KP} {w:Nat} (h:PW w p) (hw:w<=1000) (hs:aa p<=1000):Fn Tryz.prog 15 [ku p,ku p] [iB true]:=by
 have:=OX h h hw hw hs;rwa [aF rfl]at this
theorem Ia (a:KQ):kn (-1)*a = -a:=by
 rw[show kn (-1) = -(1:KQ)from(Ip 1).trans (by rw[fg]),neg_mul,one_mul]
theorem Is:Alg.inv (xK*xK)=yK*yK:=tX _ _
theorem Qo:kl [kn (-1)*Alg.inv (xK*xK),kn 1*yK]=ku dQ:=by
 rw[Ia,Is,fg,one_mul,vG (fun _=>yb),pl2]
theorem Iq {c:KQ} (h:c≠0):kl [c]=ku (an c):=by rw[vG (l:=[c]) (fun _=>h),pl1]
theorem J5:xK≠kn (-1):=fun h=>by
 have h2:=congrArg aa (xn h);rw[show(ak:PQ)=mon 1 1 from rfl,mJ 1 aH,jk (R:=Rat) aH]at h2;omega
theorem tM:FB 8 (kn (-1)):=i5 aH
theorem sC:FB 8 xK:=eB.mono aw
theorem N6:kl [kn 1*Alg.inv (xK*xK)]=ku (an (yK*yK)):=by rw[Is,fg,one_mul,Iq (a6 yb yb)]
theorem P9:kl [kn 1*yK]=ku (an yK):=by rw[fg,one_mul,Iq yb]
theorem N5:kl [kn (-1)*yK]=ku (-an yK):=by
 have h : -yK≠0:=fun e=>yb (by have:=congrArg (fun x => -x) e;rwa [neg_neg,gG]at this);rw[Ia,Iq h,lj]
set_option maxHeartbeats 4000000 in
theorem Fa:Fn Tryz.prog 11 [] [iB true]:=by
 have m0:=oX 0 aH;have m1:=oX 1 aH;have mm:=oX (-1) aH;have fx:FW xK:=eB.mono aw;have f1:FW (kn 1):=FB1 1000;have fm:FW (kn (-1)):=tM.mono aw;have fxx:FW (xK*xK):=(eB.mul eB).mono aw;have xx0:xK*xK≠0:=a6 fL fL;have fy:FW yK:=mA.mono aw;have hneg:=Ah fx;have hsq:=uI fx fx fxx;have o1:=qc fm fxx xx0 ((tM.mul ((eB.mul eB).inv xx0)).mono aw);have o2:=qc f1 fx fL (((FB1 0).mul mA).mono aw);have o3:=qc f1 fxx xx0 (((FB1 0).mul ((eB.mul eB).inv xx0)).mono aw);have o4:=qc fm fx fL ((tM.mul mA).mono aw);have hlx:=uK eB aw;have hlm:=uK tM aw;have wx:=PC.pw (yP sC);have wxx:=PC.pw (HE sC sC);have wm:=PC.pw (yP tM);have sx:=rt xK;have sm:=rt (kn (-1));have sxx:aa (LN xK*LN xK)=3:=by rw[szm (kS _) (kS _),sx]
 have s21:aa (LN xK*LN xK*LN (kn (-1)))=4:=by rw[szm (a6 (kS _) (kS _)) (kS _),sxx,sm]
 have g1:=Au wx wx (by rw[sx];omega) aw aw aw aw;have g2:=Au wxx wm (by rw[sxx];omega) aw aw aw aw;have g3:=Md (PC.pw (HF sC tM)) sC aw aw;have g4:=Sq21 (c:=xK) J5 sC tM fL sC;have wy:PW 1 (an yK:KP):=vl mA;have wyn:PW 1 (-an yK:KP):=fun i=>(wy i).neg;have wR:PW 2 (an (yK*yK):KP):=vl (mA.mul mA);have wQ:PW 4 dQ:=(vl (mA.mul mA).neg).add (JC mA);have sy:=jF yK;have syn:aa (-an yK:KP)<=1:=by rw[kq];exact sy
 have sR:=jF (yK*yK);have sQ:aa dQ<=2:=c8 (ax (jF _) aw) (by have:=bf (an yK:KP) ak;rw[j9]at this;omega);have d2:decide (((2:Nat):Int)=2)=true:=rfl;have d1:decide (((1:Nat):Int)=1)=true:=rfl;have d0:decide (((0:Nat):Int)=0)=true:=rfl;have s3:=uH [0,1,xK] [0,1,xK] au (fun f hf=>by
  simp at hf;rcases hf with rfl|rfl|rfl
  ·exact dK _
  ·exact FB1 _
  ·exact fx) (fun f hf=>by
  simp at hf;rcases hf with rfl|rfl|rfl
  ·exact dK _
  ·exact FB1 _
  ·exact fx)
 rw[aF rfl]at s3;have s3':Fn Tryz.prog 15 [fl cs3,kl [kn 0,kn 1,xK]] [iB true]:=by rw[Ou,fJ,fg];exact s3
 have fs:FW (xK*xK+kn 1):=((eB.mul eB).add (FB1 0)).mono aw;have hadd:=uQ fxx f1 fs;have hsame:=Gg (f:=kz 1+xK*xK) (g:=xK*xK+kn 1) (tV.mono aw) fs;rw[aF (add_comm _ _)]at hsame;have hTrim:=jZ [kn 0] au;have et:dD [kn 0]=[]:=by
  rw[fS,pl1,fJ,cB,pS]
 rw[et]at hTrim;have hGcd:=Ei (a:=0) (w:=0) (fun i=>dK 0) aw (by rw[aM.2 rfl];omega);rw[kh,iu,fI]at hGcd;have hz:=v7 (kn 0);rw[aF fJ]at hz;refine aJ (fn:=Tryz.f11) ?_;simp -dsimp only[go_sem];refine aK m1 ?_;simp -dsimp only[go_sem];refine ap 4 [] false true ?_;simp -dsimp only[go_sem];refine aK m0 ?_;simp -dsimp only[go_sem];refine aK (iA 0 aw) ?_;simp -dsimp only[go_sem];refine aK (iA 1 aw) ?_;simp -dsimp only[go_sem];refine aK (iA 1 aw) ?_;simp -dsimp only[go_sem];refine ao PE rfl ?_;simp -dsimp only[go_sem];refine ao MC rfl ?_;simp -dsimp only[go_sem];refine aK (iA 1 aw) ?_;simp -dsimp only[go_sem];refine ao sML rfl ?_;simp -dsimp only[go_sem];refine ao PG rfl ?_;simp -dsimp only[go_sem];refine ap 14 [] false true ?_;simp -dsimp only[go_sem];refine aP (args':=[ku ak,ku ak]) (by rw[<-Im];rfl) NO ?_;simp -dsimp only[go_sem];refine aK li ?_;simp -dsimp only[go_sem];refine aP (args':=[ku (ak*ak),ku (an 1+an xK*ak)]) (by rw[<-Qa];rfl) sDiv ?_;simp -dsimp only[go_sem];refine aP (args':=[ku ak,ku 0]) (by rw[<-Im,fI];rfl) (xT ak) ?_;simp -dsimp only[go_sem];refine ap 15 [] false true ?_;simp -dsimp only[go_sem];refine aK li ?_;simp -dsimp only[go_sem];refine ao hneg rfl ?_;simp -dsimp only[go_sem];refine aP (args':=[ku ak,ku lX,ku 1]) (by rw[<-Im,<-N3,<-ML];rfl) Ko ?_;simp -dsimp only[go_sem];refine aP (args':=[ku ak,ku ak,ku 1]) (by rw[<-Im,<-ML];rfl) Kn ?_;simp -dsimp only[go_sem];refine aK li ?_;simp -dsimp only[go_sem];refine ao hlx rfl ?_;simp -dsimp only[go_sem];refine aK li ?_;simp -dsimp only[go_sem];refine ao hlx rfl ?_;simp -dsimp only[go_sem];refine ao g1 rfl ?_;simp -dsimp only[go_sem];refine aK mm ?_;simp -dsimp only[go_sem];refine ao hlm rfl ?_;simp -dsimp only[go_sem];refine ao g2 rfl ?_;simp -dsimp only[go_sem];refine aK li ?_;simp -dsimp only[go_sem];refine ao g3 rfl ?_;simp -dsimp only[go_sem];refine ao g4 rfl ?_;simp -dsimp only[go_sem];refine aK li ?_;simp -dsimp only[go_sem];refine aK li ?_;simp -dsimp only[go_sem];refine ao hsq rfl ?_;simp -dsimp only[go_sem];refine ap 26 [] false true ?_;simp -dsimp only[go_sem];refine aK mm ?_;simp -dsimp only[go_sem];refine ao o1 rfl ?_;simp -dsimp only[go_sem];refine aK li ?_;simp -dsimp only[go_sem];refine ao o2 rfl ?_;simp -dsimp only[go_sem];refine aP (args':=[ku dQ,ku dQ]) (by rw[<-Qo];rfl) (gu wQ aw aw) ?_;simp -dsimp only[go_sem];refine ao o3 rfl ?_;simp -dsimp only[go_sem];refine aP (args':=[ku (an (yK*yK)),ku (an (yK*yK))]) (by rw[<-N6];rfl) (gu wR aw aw) ?_;simp -dsimp only[go_sem];refine ap 23 [] false true ?_;simp -dsimp only[go_sem];refine aK li ?_;simp -dsimp only[go_sem];refine ao o2 rfl ?_;simp -dsimp only[go_sem];refine aP (args':=[ku (an yK),ku (an yK)]) (by rw[<-P9];rfl) (gu wy aw aw) ?_;simp -dsimp only[go_sem];refine aK mm ?_;simp -dsimp only[go_sem];refine aK li ?_;simp -dsimp only[go_sem];refine ao o4 rfl ?_;simp -dsimp only[go_sem];refine aP (args':=[ku (-an yK),ku (-an yK)]) (by rw[<-N5];rfl) (gu wyn aw aw) ?_;simp -dsimp only[go_sem];refine ap 36 [] false true ?_;simp -dsimp only[go_sem];simp -dsimp only[go_sem,d2,d1,Int.reduceToNat,Int.reduceLE,aC,sqr];refine aK mm ?_;simp -dsimp only[go_sem];refine ao hlm rfl ?_;simp -dsimp only[go_sem];refine ao (gu wm aw aw) rfl ?_;simp -dsimp only[go_sem,Int.reduceToNat,Int.reduceLE,aC,sqr];refine aK li ?_;simp -dsimp only[go_sem];refine ao hlx rfl ?_;simp -dsimp only[go_sem];refine ao (gu wx aw aw) rfl ?_;simp -dsimp only[go_sem];refine ap 59 [] false true ?_;simp -dsimp only[go_sem];refine aK m0 ?_;simp -dsimp only[go_sem];refine aK li ?_;simp -dsimp only[go_sem];refine ao s3' rfl ?_;simp -dsimp only[go_sem];refine aK li ?_;simp -dsimp only[go_sem];refine ao hlx rfl ?_;simp -dsimp only[go_sem];refine aK m0 ?_;simp -dsimp only[go_sem];refine aP (args':=[ku lX,ku sq1]) (by rw[<-NM];rfl) sRes ?_;simp -dsimp only[go_sem];refine ao hadd rfl ?_;simp -dsimp only[go_sem];refine ao hsame rfl ?_;simp -dsimp only[go_sem];refine ao sTo rfl ?_;simp -dsimp only[go_sem];refine aK (iA 0 aw) ?_;simp -dsimp only[go_sem];refine aK (iA 1 aw) ?_;simp -dsimp only[go_sem];refine aK (iA 1 aw) ?_;simp -dsimp only[go_sem];refine ao PE rfl ?_;simp -dsimp only[go_sem];refine ao MC rfl ?_;simp -dsimp only[go_sem];refine aK (iA 1 aw) ?_;simp -dsimp only[go_sem];refine ao sML rfl ?_;simp -dsimp only[go_sem];refine ao PD rfl ?_;simp -dsimp only[go_sem];refine ao NN rfl ?_;simp -dsimp only[go_sem];refine aK m0 ?_;simp -dsimp only[go_sem];refine ao hTrim rfl ?_;simp -dsimp only[go_sem,d0];refine ao hGcd rfl ?_;simp -dsimp only[go_sem,d0];refine aP (args':=[ku 0,ku ak]) (by rw[<-Im,fI];rfl) (JI (.inl rfl)) ?_;simp -dsimp only[go_sem];refine ao hz rfl ?_;simp -dsimp only[go_sem]
theorem CV (x y:KP):aa (x*y)<=aa x+aa y-1:=bf x y
theorem mulw {p q:KP} {w v n:Nat} (hp:PW w p) (hq:PW v q) (hs:aa p<=n):PW (n*(w+v+1)) (p*q):=(MG hp hq).mono (Nat.mul_le_mul_right _ hs)
theorem P0 {p:KP} {w:Nat} (h:PW w p):PW (2*w) (mn p):=by
 rw[mn,mul_comm];by_cases h0:p=0
 ·rw[h0,zero_mul];exact fun i=>dK _
 ·have:=h.scale ((h (aa p-1)).inv (bM h0));exact this.mono aw
theorem re1 {p q:KP} (h:aa q=1):ab p q=0:=by
 have e:=d6 (Nat.le_of_eq h);have h0:q.c 0≠0:=fun e0=>by rw[e0,cB]at e;rw[e,aM.2 rfl]at h;omega
 rw[e];exact Alg.gD h0
theorem uw {r:KP} (h:aa r=1):∃ c,c≠0/\r=an c:=by
 have e:=d6 (Nat.le_of_eq h);exact⟨_,fun e0=>by rw[e0,cB]at e;rw[e,aM.2 rfl]at h;omega,e⟩
theorem re_f {p q f:KP} (hq:q≠0) (hf:f≠0):ab (p*f) (q*f)=ab p q*f:=by
 obtain⟨h1,h2⟩:=qure (a:=p) hq;refine tg (q:=qu p q) ?_ ?_
 ·conv=>lhs;rw[h1]
  exact ring [qu p q,ab p q,q,f]
 ·by_cases hr:ab p q=0
  ·rw[hr,zero_mul,aM.2 rfl];exact aR (a6 hq hf)
  ·have:=aR hr;rw[szm hr hf,szm hq hf];have:=aR hf;omega
theorem Hr {p q:KP} (hq:q≠0) (hp:PW 8 p) (hq':PW 8 q) (sp:aa p<=2) (sq:aa q<=2):PW 83 (ab p q):=by
 have:=aR hq;exact(Ql hq hp hq').2.1.mono (ax (lv 8 8 (by omega:_<=2)) aH)
section
variable {p q:KP} (hp:PW 8 p) (hq:PW 8 q) (sp:aa p<=2) (sq:aa q<=2)
include hp hq sp sq
theorem M9:Fn Tryz.prog 24 [ku p,ku q] [ku (ai p q)]:=by
 by_cases h0:q=0
 ·rw[h0];exact Ei hp aw aw
 have h1:=aR h0;have wr:=Hr h0 hp hq sp sq;have c1:=oY h0 hp hq aw aw aw;have sr:=(qure (a:=p) h0).2;by_cases hr:ab p q=0
 ·exact Eh h0 hq aw aw hr c1
 ·have h2:=aR hr;exact Eg h0 rfl hr (re1 aw) wr aw aw c1 (oY hr hq wr aw aw aw)
theorem gdS:PW 16 (ai p q)/\aa (ai p q)<=2:=by
 by_cases h0:q=0
 ·rw[h0,kh,Di];exact⟨P0 hp,sp⟩
 have sr:=(qure (a:=p) h0).2;by_cases hr:ab p q=0
 ·rw[gd1 h0 hr,Di];exact⟨P0 hq,sq⟩
 ·have h2:=aR hr;obtain⟨c,hc,e⟩:=uw (r:=ab p q) aw;rw[gd2 h0 e (fo hc) (Alg.gD hc),NY hc,mX];exact⟨CB.mono aw,aw⟩
theorem O3 {f:KP} (hf:PW 8 f) (sf:aa f=2):Fn Tryz.prog 24 [ku (p*f),ku (q*f)] [ku (ai (p*f) (q*f))]:=by
 have hf0:f≠0:=fun h=>by rw[h,aM.2 rfl]at sf;omega
 have wpf:PW 34 (p*f):=mulw hp hf sp;have wqf:PW 34 (q*f):=mulw hq hf sq;have spf:=CV p f;by_cases h0:q=0
 ·rw[h0,zero_mul];exact Ei wpf aw aw
 have h1:=aR h0;have hqf:=a6 h0 hf0;have sqf:=szm h0 hf0;have wr:=Hr h0 hp hq sp sq;have hre:=re_f (p:=p) h0 hf0;have c1:=oY hqf wpf wqf aw aw aw;have sr:=(qure (a:=p) h0).2;by_cases hr:ab p q=0
 ·exact Eh hqf wqf aw aw (by rw[hre,hr,zero_mul]) c1
 ·have h2:=aR hr;obtain⟨c,hc,e⟩:=uw (r:=ab p q) aw;rw[e]at hre wr;have wc:FB 83 c:=wr 0;have hre':ab (p*f) (q*f)=f*an c:=by rw[hre,mul_comm]
  have wfc:PW 91 (f*an c):=hf.scale wc;have nfc:=a6 hf0 (fo hc);have sfc:=CX f hc;exact Eg hqf hre' nfc (Hs hc hf0 rfl) wfc aw aw c1 (oY nfc wqf wfc aw aw aw)
theorem OY:Fn Tryz.prog 25 [ku p,ku q] [ku (ai p q)]:=by
 by_cases h0:q=0
 ·subst h0;exact uL (w:=fun _=>8) 0 rfl (fun i hi=>absurd hi aw) (fun i hi=>absurd hi aw) (fun i hi=>absurd hi aw) ⟨hp,aH,by show aa p<=1000;omega⟩
 have h1:=aR h0;have wr:=Hr h0 hp hq sp sq;have sr:=(qure (a:=p) h0).2;have c1:=xN h0 hp hq (by
  refine ax (Nat.mul_le_mul (by omega:aa q+2<=4) (Nat.add_le_add_right (Nat.add_le_add_right (rR 8 8 (by omega:aa p+1-aa q<=2)) _) _)) aH) aw aw
 by_cases hr:ab p q=0
 ·refine uL (w:=fun i=>if i=0 then 83 else 8) 1 (by show mn (ab p q)=0;rw[hr,iu]) (fun i hi=>?_) (fun i hi=>?_) (fun i hi=>?_) ⟨hq,aH,by show aa q<=1000;omega⟩
  ·obtain rfl:i=0:=aw;exact h0
  ·obtain rfl:i=0:=aw;exact c1
  ·obtain rfl:i=0:=aw;exact⟨wr,aH,by show aa (ab p q)<=1000;omega⟩
 ·have h2:=aR hr;obtain⟨c,hc,e⟩:=uw (r:=ab p q) aw;have em:mn (ab p q)=1:=by rw[e,NY hc]
  have e1:gP p q 1=(q,1):=by show(q,mn (ab p q))=_;rw[em]
  have rq1:ab q 1=0:=re1 mX;have e2:gP p q 2=(1,0):=by
   show((gP p q 1).2,mn (ab (gP p q 1).1 (gP p q 1).2))=_;rw[e1];show((1:KP),mn (ab q 1))=_;rw[rq1,iu]
  have c2:=xN yS hq CB (by
   rw[mX];refine ax (Nat.mul_le_mul_left _ (Nat.add_le_add_right (Nat.add_le_add_right (rR 8 0 (by omega:aa q+1-1<=2)) _) _)) aH) aw (by rw[mX];omega)
  refine uL (w:=fun i=>if i=0 then 83 else 0) 2 (by rw[e2]) (fun i hi=>?_) (fun i hi=>?_) (fun i hi=>?_) (by rw[e2];exact⟨CB,aH,by show aa (1:KP)<=1000;rw[mX];omega⟩)
  ·obtain rfl|rfl:i=0\/i=1:=aw
   ·exact h0
   ·rw[e1];exact yS
  ·obtain rfl|rfl:i=0\/i=1:=aw
   ·exact c1
   ·rw[e1];exact c2
  ·obtain rfl|rfl:i=0\/i=1:=aw
   ·exact⟨wr,aH,by show aa (ab p q)<=1000;omega⟩
   ·rw[e1];show PW 0 (ab q 1)/\_;rw[rq1,aM.2 rfl];exact⟨fun i=>dK _,aH,aw⟩
end
set_option maxHeartbeats 8000000 in
theorem Lj (a b:List iS) (c:iS) (ha:OkL a) (hb:OkL b) (hc:c.ok):Fn Tryz.prog 5 [rl a,rl b,.g c.row] [iB true]:=by
 have hs:=Fa;have m1:=wn a 2 aw ha.1 ha.2;have m2:=wn b 2 aw hb.1 hb.2;have m3:=wo c.N c.D 1 aw hc.1.1 hc.1.2 hc.2.1 hc.2.2;have wp:=Dn 2 ha.2;have wq:=Dn 2 hb.2;have wk:FB 8 (tK c.N c.D 1):=Bh aw hc.2.1 hc.2.2;have sp:=y7 a 2;have sq:=y7 b 2;generalize tJ a 2=p at *
 generalize tJ b 2=q at *
 generalize tK c.N c.D 1=k at *
 clear ha hb hc;have m4:=uK wk aw;have wf:PW 8 (ak-an k:KP):=mi wk;have sf:aa (ak-an k:KP)=2:=ff k;have lf:mn (ak-an k:KP)=ak-an k:=H4 k;generalize (ak-an k:KP)=f at *
 have f1:=M9 wp wq sp sq;have f2:=D8 wp wf (by rw[sf];omega) aw;have f3:=D8 wq wf (by rw[sf];omega) aw;have f4:=O3 wp wq sp sq wf sf;have e4:ai (p*f) (q*f)=ai p q*f:=by rw[Oe,lf]
 rw[e4]at f4;have f5:=OY wp wq sp sq;have f6:=M9 wq wp sq sp;rw[Li]at f6;obtain⟨wg,sg⟩:=gdS wp wq sp sq;have hm:=vD p q;have hz:=zx (a:=p) (b:=q);have hd:=fZ p q;generalize ai p q=g at *
 have g1:=gu wg aw aw;have f7:=D8 wg wf (by rw[sf];omega) aw;have wgf:PW 50 (g*f):=mulw wg wf sg;have sgf:=CV g f;have g2:=gu wgf aw aw;have f8:=xO wg aw aw;rw[hm]at f8;have e1:decide ((aa (0:KP):Int)=0)=true:=by rw[aM.2 rfl];rfl
 refine aJ (fn:=Tryz.f5) ?_;simp -dsimp only[go_sem];refine aK hs ?_;simp -dsimp only[go_sem];refine ap 10 [] false true ?_;simp -dsimp only[go_sem];refine ao m1 rfl ?_;simp -dsimp only[go_sem];refine ao m2 rfl ?_;simp -dsimp only[go_sem,iS.row];refine ao m3 rfl ?_;simp -dsimp only[go_sem];refine ao m4 rfl ?_;simp -dsimp only[go_sem];refine ao f1 rfl ?_;simp -dsimp only[go_sem];refine ao f2 rfl ?_;simp -dsimp only[go_sem];refine ao f3 rfl ?_;simp -dsimp only[go_sem];refine ao f4 rfl ?_;simp -dsimp only[go_sem];refine ao f5 rfl ?_;simp -dsimp only[go_sem];refine ao g1 rfl ?_;simp -dsimp only[go_sem];refine ao f6 rfl ?_;simp -dsimp only[go_sem];refine ao g1 rfl ?_;simp -dsimp only[go_sem];refine ao f7 rfl ?_;simp -dsimp only[go_sem];refine ao g2 rfl ?_;by_cases hg:g=0
 ·obtain⟨hp0,hq0⟩:=hz.1 hg;have eg:decide ((aa g:Int)=0)=true:=by rw[hg];exact e1
  have ep:decide ((aa p:Int)=0)=true:=by rw[hp0];exact e1
  have eq:decide ((aa q:Int)=0)=true:=by rw[hq0];exact e1
  simp -dsimp only[go_sem,az,aZ,eg,ep,eq]
 ·have sg0:=aR hg;have eg:decide ((aa g:Int)=0)=false:=aG aw;have hbd:∀ x:KP,aa x<=2->(aa g+2)*(wR 8 16 (aa x+1-aa g)+2*16+1)<=1000:=fun x hx =>
   ax (Nat.mul_le_mul (by omega:aa g+2<=4) (Nat.add_le_add_right (Nat.add_le_add_right (rR 8 16 (by omega:aa x+1-aa g<=2)) _) _)) aH
  have f9:=xN hg wp wg (hbd p sp) aw aw;rw[(rk hg).2 hd.1]at f9;have f10:=xN hg wq wg (hbd q sq) aw aw;rw[(rk hg).2 hd.2.1]at f10;simp -dsimp only[go_sem,az,aZ,eg];refine ao f8 rfl ?_;simp -dsimp only[go_sem];refine ao g1 rfl ?_;simp -dsimp only[go_sem];refine ao f9 rfl ?_;simp -dsimp only[go_sem,az,aZ,e1];refine ao f10 rfl ?_;simp -dsimp only[go_sem,az,aZ,e1]
end Go.AM
