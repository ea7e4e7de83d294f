/- Lemmas, part 21 of 23. No condition. -/
import Derived.Test.YtcmfkhicjhliaaaGreatPZ419
set_option maxRecDepth 65536
set_option linter.unusedSimpArgs false
set_option linter.unusedVariables false
set_option linter.unusedSectionVars false
namespace Go.AM
open Alg
open Go.Proofs
open Classical
structure ju where
 N:List T5
 D:List T5
def ju.row (x:ju):List C:=[.lst (x.N.map T5.row),.lst (x.D.map T5.row)]
def ju.ok (x:ju):Prop:=(x.N.length<=9223372036854775807/\x.D.length<=9223372036854775807)/\(∀ t∈x.N,t.ok)/\∀ t∈x.D,t.ok
noncomputable def ju.k (x:ju) (n:Nat):KQ:=zh x.N x.D n
abbrev rl (l:List ju):IV := .c (.lst (l.map ju.row))
noncomputable def mdR (l:List ju) (i:Nat):List KQ:=(l.take i).map fun x=>x.k 2
theorem H8 {l:List ju} {i:Nat} (h:i<l.length):mdR l (i+1)=mdR l i++[l[i].k 2]:=by
 unfold mdR;rw[aq h,List.map_append];rfl
theorem K6 {l:List ju} {i:Nat} (h:i<=l.length):(mdR l i).length=i:=by simp[mdR];omega
noncomputable def pE (l:List ju) (n:Nat):KP:=ac (mdR l n)
theorem xn {l:List ju} (n:Nat) (h:∀ x∈l,x.ok):PW 8 (pE l n):=fun i=>by
 rw[pE,rR,List.getD_eq_getElem?_getD];by_cases hi:i<(mdR l n).length
 ·rw[aD hi];have hm:=List.getElem_mem hi;generalize (mdR l n)[i]=f at hm;obtain⟨x,hx,rfl⟩:=List.mem_map.1 hm;have hk:=h x (List.mem_of_mem_take hx);exact Hx aw hk.2.1 hk.2.2
 ·rw[List.getElem?_eq_none aw];exact dz _
theorem tU (l:List ju) (n:Nat):aa (pE l n)<=n:=ax (MO _) (by simp[mdR];omega)
theorem qW (l:List ju) (n:Nat) (hn:n<=3) (hl:l.length<=9223372036854775807) (h:∀ x∈l,x.ok):Fn Tryz.prog 13 [rl l,iN n] [ku (pE l n)]:=by
 have htr:dF (mdR l n)=aj (pE l n):=f7 _;have hln:(mdR l n).length<=3:=by simp[mdR];omega
 refine aJ (fn:=Tryz.f13) ?_;simp -dsimp only[go_sem];refine cj 5 7 2 (rs:=[]) rfl au ?_;refine br [(5,6),(8,26)] [] [(7,7),(26,26)] (fun m τ β ε=>∃ i:Nat,m=n-i/\i<=n/\i<=l.length/\τ 6 = .i (iN i)/\Own 2 ((mdR l i).map kr) 5 7 τ ε)
  (fun e τ β ε=>e = .exit 0/\Own 2 ((mdR l n).map kr) 5 7 τ ε) n ?_ ?_ ?_
 ·exact⟨0,aw,aw,aw,rfl,Own.mk (g:=1) (mm:=false) aw rfl rfl rfl⟩
 ·rintro m τ β ε π hK hKB hKE ⟨i,hm,hi,hil,h6,g,mm,hg,h5,h7⟩;have hlen:=K6 hil;rw[az,hlen]at h5;have k0:τ 0 = .i (rl l):=(hK 0 rfl).trans rfl;have k1:τ 1 = .i (iN n):=(hK 1 rfl).trans rfl;by_cases hA:i<l.length
  ·have dA:decide ((i:Int)<(l.length:Int))=true:=aF aw;have gl:l[i]?=some l[i]:=by simp[hA]
   by_cases hB:i<n
   ·have dB:decide ((i:Int)<(n:Int))=true:=aF aw;have ho:=h _ (List.getElem_mem hA);have mk:=Gp l[i].N l[i].D 2 aw ho.1.1 ho.1.2 ho.2.1 ho.2.2;simp -dsimp only[go_sem,h6,k0,k1,dA,dB,az];refine aQ gl ?_;simp -dsimp only[go_sem,ju.row,h6,k0,k1,h5];refine ao mk rfl ?_;simp -dsimp only[go_sem,h5,h7,hg,h6,az,hlen]
    repeat(refine And.intro aw ?_)
    refine bc (n-(i+1)) 5 26 7 aw rfl rfl aw aH ⟨(aA hK),hKB,(aA hKE),i+1,rfl,aw,aw,rfl,?_⟩;exact Own.mk2 (Nat.succ_pos _) (by simp -dsimp only[go_sem];rfl) (by simp -dsimp only[go_sem];rfl) (by simp[hlen]) (by rw[H8 hA,List.map_append];rfl)
   ·have dB:decide ((i:Int)<(n:Int))=false:=aG aw;obtain rfl:i=n:=aw;simp -dsimp only[go_sem,h6,k0,k1,dA,dB,az];exact⟨(aA hK),hKB,hKE,Own.mk hg h5 (by rw[az,hlen]) h7⟩
  ·have dA:decide ((i:Int)<(l.length:Int))=false:=aG aw;have et:mdR l n=mdR l i:=by unfold mdR;rw[List.take_of_length_le aw,List.take_of_length_le aw]
   simp -dsimp only[go_sem,h6,k0,k1,dA,az];rw[et];exact⟨(aA hK),hKB,hKE,Own.mk hg h5 (by rw[az,hlen]) h7⟩
 ·rintro e τ β ε π hK hKB hKE ⟨rfl,g,mm,hg,h5,h7⟩;refine⟨_,bA.freeze _ 7,?_⟩;simp -dsimp only[go_sem,h5,h7,hg];refine aO (args':=[kl (mdR l n)]) rfl (j3 _ aw) ?_;simp -dsimp only[go_sem];rw[htr]
theorem JL (l:List ju) (hl:l.length<=9223372036854775807) (h:∀ x∈l,x.ok):Fn Tryz.prog 12 [rl l] [ku (pE l 3)]:=by
 refine aJ (fn:=Tryz.f12) ?_;simp -dsimp only[go_sem];refine ao (qW l 3 aw hl h) rfl ?_;simp -dsimp only[go_sem]
theorem oX (n:Int) (h : -9223372036854775808<=n/\n<9223372036854775808):Fn Tryz.prog 30 [iN n] [iK (kn n)]:=by
 refine aJ (fn:=Tryz.f30) ?_;simp -dsimp only[go_sem];refine aK (fH n h) ?_;simp -dsimp only[go_sem]
theorem ln:Fn Tryz.prog 59 [] [iK (Alg.em ak)]:=by
 refine aJ (fn:=Tryz.f59) ?_;simp -dsimp only[go_sem];refine aK Jp ?_;simp -dsimp only[go_sem]
theorem qg {f g:KQ} (hf:FW f) (hg:FW g) (hg0:g≠0) (h:FW (f*Alg.inv g)):Fn Tryz.prog 60 [iK f,iK g] [iK (f*Alg.inv g)]:=by
 refine aJ (fn:=Tryz.f60) ?_;simp -dsimp only[go_sem];refine ao (qV hf hg hg0 h) rfl ?_;simp -dsimp only[go_sem]
abbrev OkL (l:List ju):Prop:=l.length<=9223372036854775807/\∀ x∈l,x.ok
end Go.AM
namespace Go.AM
open Go.Proofs
open Classical
abbrev one1:List Tm:=[(e0,1)]
def Tok (t:Tm):Prop:=cT t.1/\t.1.lt 1099511627776/\t.2≠0/\QB 4294967296 t.2
theorem OD (e:Ex):e0.add e=e:=by simp[e0,Ex.add]
theorem F7 (e:Ex):co e e=0:=(jD e e).2 rfl
theorem FF {m:Tm} (h:Tok m):FG one1 [m]=[m]:=by
 have e1:sumM one1 [m] []=[m]:=by
  simp only[sumM,rowM,List.foldl_cons,List.foldl_nil,addT,OD];rw[show(1:Rat)*m.2=m.2 from Rat.one_mul _]
 rw[FG,e1,vq];have e2:keep m=true:=by
  unfold keep;rw[aF h.1,aF h.2.2.1];rfl
 simp only[List.filter_cons,e2,if_true,List.filter_nil,Fb,pJ]
theorem E8 (m:Tm) (R:List Tm):E9 (m::R) [m]=R:=by
 rw[E9,jy _ aH,List.map_cons,List.map_nil,jG];simp only[F7];rw[if_neg aH,if_neg aH,if_pos (by show m.2+m.2 * -1=0;rw[Rat.mul_neg,Rat.mul_one];exact Rat.add_neg_cancel _),jF]
theorem Dh (q:Rat):q/1=q:=by rw[Rat.div_def,show(1:Rat)⁻¹=1 by decide +kernel];exact Rat.mul_one q
theorem AJ (N:List Tm) (hl:N.length<=1048576) (h:∀ t∈N,Tok t):Fn Tryz.prog 152 [iM N,iM one1] [iM N,iB true]:=by
 refine aJ (fn:=Tryz.f152) ?_;have c1:one1[0]?=some (e0,1):=rfl;have e1:decide (((1:Nat):Int)=0)=false:=rfl;simp -dsimp only[go_sem,e1,az];refine cj 6 6 8 (rs:=[]) rfl au ?_;refine br [(0,0),(4,8),(12,59)] [(7,7)] [(53,53),(6,6)] (fun n τ β ε=>∃ i:Nat,n=N.length-i/\i<=N.length/\τ 0 = .i (iM (N.drop i))/\Own 8 ((N.take i).map eT) 6 6 τ ε)
  (fun e τ β ε=>e = .exit 0/\Own 8 (N.map eT) 6 6 τ ε) N.length ?_ ?_ ?_
 ·exact⟨0,aw,aw,rfl,Own.mk (g:=1) (mm:=false) aw rfl rfl rfl⟩
 ·rintro n τ β ε π hK hKB hKE ⟨i,hn,hi,h0,g,mm,hg,h6,hrow⟩;have hlen:(N.take i).length=i:=by simp;omega
  rw[az,hlen]at h6;have k1:τ 1 = .i (iM one1):=(hK 1 rfl).trans rfl;by_cases hlt:i<N.length
  ·obtain⟨m,hmi⟩:∃ m,N[i]=m:=⟨_,rfl⟩;obtain⟨R,eR⟩:∃ R,N.drop (i+1)=R:=⟨_,rfl⟩;have hdr:N.drop i=N[i]::N.drop (i+1):=List.drop_eq_getElem_cons hlt;have hm:=h _ (List.getElem_mem hlt);have htk:N.take (i+1)=N.take i++[N[i]]:=aq hlt;have hll:(N.drop (i+1)).length<=1048576:=by simp;omega
   rw[hmi,eR]at hdr;rw[hmi]at hm htk;rw[eR]at hll;have hRq:∀ t∈m::R,QB 8589934592 t.2:=fun t ht=>by
    rw[<-hdr]at ht;exact(h t (List.mem_of_mem_drop ht)).2.2.2.mono' aw
   rw[hdr]at h0;have cR:(m::R)[0]?=some m:=rfl;have hA:(0:Int)<((R.length+1:Nat):Int):=aw;have lR:(m::R).length=R.length+1:=rfl;obtain⟨t1,t2,t3,t4⟩:=hm;have eN:decide (cT m.1)=true:=aF t1;unfold cT at t1;have t2':=t2;unfold Ex.lt at t2';simp -dsimp only[go_sem,h0,hA,Int.reduceToNat,Int.reduceLE,aC];refine aQ cR ?_;simp -dsimp only[go_sem,h0,hA,h6,hrow];refine br [(8,8),(18,34)] [(7,7)] [] (fun n τ' β' ε'=>∃ i:Nat,n=4-i/\i<=4/\τ' 18 = .i (iN i)/\β' 7=⟨(β 7).gen+1,eT m⟩)
    (fun e τ' β' ε'=>e = .exit 2/\β' 7=⟨(β 7).gen+1,eT m⟩) 4 ?_ ?_ ?_
   ·exact⟨0,aw,aw,rfl,rfl⟩
   ·rintro n2 τ2 β2 ε2 π2 hK2 hKB2 hKE2 ⟨i,hn2,hi,h18,b7⟩;have q7:τ2 7 = .bp 7 ((β 7).gen+1) 0:=(hK2 7 rfl).trans rfl;have q1:τ2 1 = .i (iM one1):=(hK2 1 rfl).trans k1;obtain rfl|rfl|rfl|rfl|rfl:i=4\/i=0\/i=1\/i=2\/i=3:=aw
    ·have h18':τ2 18 = .i (iN 4):=h18;simp -dsimp only[go_sem,h18',Int.reduceLT,decide_false];exact⟨(aA hK2),hKB2,hKE2,b7⟩
    ·have h18':τ2 18 = .i (iN 0):=h18;simp -dsimp only[go_sem,h18',Int.reduceLT,decide_true];refine ap 13 [] false true ?_;simp -dsimp only[go_sem,h18',q1,q7,b7,Int.reduceToNat,Int.reduceLE,aC,Int.reduceAdd];refine aQ c1 ?_;simp -dsimp only[go_sem,h18',q1,q7,b7,Int.reduceToNat,Int.reduceLE,aC,Int.reduceAdd,e0,Int.sub_zero]
     repeat(refine And.intro aw ?_)
     refine again (4-1) aw ⟨(aA hK2),(aA hKB2),hKE2,1,rfl,aw,rfl,?_⟩;simp -dsimp only[go_sem]
    ·have h18':τ2 18 = .i (iN 1):=h18;simp -dsimp only[go_sem,h18',Int.reduceLT,decide_true];refine ap 13 [] false true ?_;simp -dsimp only[go_sem,h18',q1,q7,b7,Int.reduceToNat,Int.reduceLE,aC,Int.reduceAdd];refine aQ c1 ?_;simp -dsimp only[go_sem,h18',q1,q7,b7,Int.reduceToNat,Int.reduceLE,aC,Int.reduceAdd,e0,Int.sub_zero]
     repeat(refine And.intro aw ?_)
     refine again (4-2) aw ⟨(aA hK2),(aA hKB2),hKE2,2,rfl,aw,rfl,?_⟩;simp -dsimp only[go_sem]
    ·have h18':τ2 18 = .i (iN 2):=h18;simp -dsimp only[go_sem,h18',Int.reduceLT,decide_true];refine ap 13 [] false true ?_;simp -dsimp only[go_sem,h18',q1,q7,b7,Int.reduceToNat,Int.reduceLE,aC,Int.reduceAdd];refine aQ c1 ?_;simp -dsimp only[go_sem,h18',q1,q7,b7,Int.reduceToNat,Int.reduceLE,aC,Int.reduceAdd,e0,Int.sub_zero]
     repeat(refine And.intro aw ?_)
     refine again (4-3) aw ⟨(aA hK2),(aA hKB2),hKE2,3,rfl,aw,rfl,?_⟩;simp -dsimp only[go_sem]
    ·have h18':τ2 18 = .i (iN 3):=h18;simp -dsimp only[go_sem,h18',Int.reduceLT,decide_true];refine ap 13 [] false true ?_;simp -dsimp only[go_sem,h18',q1,q7,b7,Int.reduceToNat,Int.reduceLE,aC,Int.reduceAdd];refine aQ c1 ?_;simp -dsimp only[go_sem,h18',q1,q7,b7,Int.reduceToNat,Int.reduceLE,aC,Int.reduceAdd,e0,Int.sub_zero]
     repeat(refine And.intro aw ?_)
     refine again (4-4) aw ⟨(aA hK2),(aA hKB2),hKE2,4,rfl,aw,rfl,?_⟩;simp -dsimp only[go_sem]
   ·rintro e τ2 β2 ε2 π2 hK2 hKB2 hKE2 ⟨rfl,b7⟩;refine⟨_,bA.refl _,?_⟩;have r7:τ2 7 = .bp 7 ((β 7).gen+1) 0:=(hK2 7 rfl).trans rfl;have r1:τ2 1 = .i (iM one1):=(hK2 1 rfl).trans k1;have r0:τ2 0 = .i (iM (m::R)):=(hK2 0 rfl).trans h0;have r6:τ2 6 = .sl 6 g i:=(hK2 6 rfl).trans h6;have rr:ε2 6=⟨g,8,(N.take i).map eT,mm,true⟩:=(hKE2 6 rfl).trans hrow;have kO:=Kp.step2 hK hK2 (by intro n;simp[inR]<;>omega) (aA hK);have kB:=Kp.step2 hKB hKB2 (by intro n;simp[inR]<;>omega) (aA hKB);have kE:=Kp.step2 hKE hKE2 (by intro n;simp[inR]) hKE;have hq1:QB 17179869184 (1:Rat):=nB;have hq2:=t4.mono' (m:=8589934592) aw;have hmm:(1:Rat)*m.2=m.2:=Rat.one_mul _;simp -dsimp only[go_sem,r7,b7,r1,r0];refine aO (args':=[iE m.1]) rfl (lO _) ?_;simp -dsimp only[go_sem,eN];refine bC av 9 11 [] true [.tmp 49] none av av av av aE ?_;simp -dsimp only[go_sem,r7,b7,r1,r0,Int.reduceToNat,Int.reduceLE,aC];refine aQ c1 ?_;simp -dsimp only[go_sem,r7,b7,r1,r0,Int.reduceToNat,Int.reduceLE,aC];refine aO (args':=[iQ m.2,iQ 1]) rfl (sE _ _ aH (t4.mono' aw) hq1) ?_;rw[Dh];simp -dsimp only[go_sem,r7,b7,r1,r0,Int.reduceToNat,Int.reduceLE,aC];simp -dsimp only[go_sem,r6,rr,hg,az,hlen]
    repeat(refine And.intro aw ?_)
    simp -dsimp only[go_sem,r7,r1,r0];refine aO (args':=[iM one1,iM [m]]) rfl (xZ one1 [m] aH au (fun t ht=>by simp at ht;subst ht;simp[Ex.lt,e0]) (fun t ht=>by simp at ht;subst ht;unfold Ex.lt;omega)
     (fun t ht=>by simp at ht;subst ht;exact hq1) (fun t ht=>by simp at ht;subst ht;exact t4.mono' aw) ?_) ?_
    ·intro i' j' hi' hj';obtain rfl:i'=0:=by simp at hi';omega
     obtain rfl:j'=0:=by simp at hj';omega
     refine⟨?_,fun e q hq=>?_⟩
     ·show QB 8589934592 ((1:Rat)*m.2);rw[hmm];exact hq2
     ·simp[rowM,sumM]at hq
    rw[FF ⟨by unfold cT;exact t1,t2,t3,t4⟩];simp -dsimp only[go_sem,r0];refine ao (Em (m::R) [m] ar hRq (fun t ht=>by simp at ht;subst ht;exact hq2)) rfl ?_;rw[E8];simp -dsimp only[go_sem];refine bc (N.length-(i+1)) 6 53 6 aw rfl rfl aw aH ⟨(aA kO),(aA kB),(aA kE),i+1,rfl,aw,by rw[eR];simp -dsimp only[go_sem],?_⟩;exact Own.mk2 (Nat.succ_pos _) (by simp -dsimp only[go_sem];rfl) (by simp -dsimp only[go_sem];rfl) ar (by simp only[<-List.map_take];rw[htk,List.map_append];rfl)
  ·have hA:¬ (0:Int)<((0:Nat):Int):=aw;obtain rfl:i=N.length:=aw;rw[List.take_length]at hrow;rw[List.drop_length]at h0;simp -dsimp only[go_sem,h0,hA];exact⟨(aA hK),hKB,hKE,Own.mk hg h6 au hrow⟩
 ·rintro e τ β ε π hK hKB hKE ⟨rfl,g,mm,hg,h6,hrow⟩;refine⟨_,bA.refl _,?_⟩;rw[az]at h6;simp -dsimp only[go_sem,h6,hrow,hg]
theorem JW {N:List Tm} (hN:N≠[]):Fn Tryz.prog 151 [iM N,iM one1] [iM one1]:=by
 have e1:decide ((N.length:Int)=0)=false:=aG fun h=>hN (List.eq_nil_of_length_eq_zero aw);have e2:decide (((1:Nat):Int)=0)=false:=rfl;refine aJ (fn:=Tryz.f151) ?_;simp -dsimp only[go_sem,e1,e2,az];refine ao (nq N) rfl ?_;by_cases h1:zy N=true
 ·simp -dsimp only[go_sem,h1];refine aK BH ?_;simp -dsimp only[go_sem]
 ·have e3:zy N=false:=by simpa using h1
  simp -dsimp only[go_sem,e3];refine ao (nq one1) rfl ?_;rw[show zy one1=true from rfl];simp -dsimp only[go_sem];refine aK BH ?_;simp -dsimp only[go_sem]
theorem s9 (N:List Tm):d8 N 1=N:=by
 rw[jy _ aH]
 conv=>rhs;rw[<-List.map_id N]
 exact List.map_congr_left fun t _=>by rw[Rat.mul_one];rfl
theorem yD:∀ t∈one1,Tok t:=by
 intro t ht;simp at ht;subst ht;refine⟨by simp[cT,e0],by simp[Ex.lt,e0],aH,?_,?_⟩
 ·exact ax (fC (k:=1) aH) aw
 ·exact ax (fC (k:=1) aH) aw
theorem AG (N:List Tm) (hl:N.length<=1048576) (h:∀ t∈N,Tok t):Fn Tryz.prog 110 [iM N,iM one1] [iF N one1,iN 0]:=by
 by_cases hN:N=[]
 ·subst hN;exact AF au
 have q1:∀ t∈N,QB 17179869184 t.2:=fun t ht=>(h t ht).2.2.2.mono' aw;have:=J3 (N:=N) (D:=one1) (G:=one1) (N1:=N) (D1:=one1) (c:=1) (x:=(e0,1)) au hN (JW hN) (AJ N hl h) (AJ one1 aH yD) rfl aH nB (Dh 1).symm
  (j0 N 1 aw q1 nB) (j0 one1 1 aH (fun t ht=>(yD t ht).2.2.2.mono' aw) nB)
 rw[s9,s9]at this;exact this
abbrev F2:=List Tm×List Tm
def fr2 (x:F2):List C:=[cM x.1,cM x.2]
abbrev fl (l:List F2):IV := .c (.lst (l.map fr2))
theorem Mq {a:List Tm} {v:Nat} {L:List (List Tm)} (hl:L.length<=1099511627776) (h:FnM Tryz.prog 89 [iM a,iN v] 1 (L.map fun N=>[cM N])):Fn Tryz.prog 43 [iM a,iN v] [fl (L.map fun N=>(N,one1))]:=by
 refine aJ (fn:=Tryz.f43) ?_;simp -dsimp only[go_sem];refine cq h ?_;simp -dsimp only[go_sem,az];refine cj 5 5 2 (rs:=[]) rfl au ?_;refine br [(5,5),(7,7),(12,21)] [] [(20,20),(5,5)] (fun n τ β ε=>∃ i:Nat,n=L.length-i/\i<=L.length/\τ 12 = .i (iN i)/\Own 2 ((L.take i).map fun N=>fr2 (N,one1)) 5 5 τ ε)
  (fun e τ β ε=>e = .exit 0/\Own 2 (L.map fun N=>fr2 (N,one1)) 5 5 τ ε) L.length ?_ ?_ ?_
 ·exact⟨0,aw,aw,rfl,Own.mk (g:=1) (mm:=false) (len:=0) aw rfl rfl rfl⟩
 ·rintro n τ β ε π hK hKB hKE ⟨i,hn,hi,h12,g,mm,hg,h5,hrow⟩;have k10:τ 10 = .sl 10 1 L.length:=(hK 10 rfl).trans rfl;have k11:τ 11 = .i (iN L.length):=(hK 11 rfl).trans rfl;have e10:ε 10=⟨1,1,L.map fun N=>[cM N],!L.isEmpty,true⟩:=by rw[hKE 10 aH];simp -dsimp only[go_sem,List.isEmpty_map]
  have hlen:(L.take i).length=i:=by simp;omega
  rw[az,hlen]at h5;by_cases hlt:i<L.length
  ·have hA:(i:Int)<(L.length:Int):=aw;have hgl:L[i]?=some L[i]:=aD hlt;have htk:L.take (i+1)=L.take i++[L[i]]:=aq hlt;simp -dsimp only[go_sem,h12,k10,k11,e10,hA,az];refine⟨hlt,aQ hgl ?_⟩;simp -dsimp only[go_sem,h12,k10,k11,e10,h5,hrow];refine aO (args':=[iM L[i]]) rfl (ve _) ?_;simp -dsimp only[go_sem,h12,h5,hrow,hg,az,hlen]
   repeat(refine And.intro aw ?_)
   refine bc (L.length-(i+1)) 5 20 5 aw rfl rfl aw aH ⟨(aA hK),hKB,(aA hKE),i+1,rfl,aw,rfl,?_⟩;exact Own.mk2 (Nat.succ_pos _) (by simp -dsimp only[go_sem];rfl) (by simp -dsimp only[go_sem];rfl) ar (by simp only[<-List.map_take];rw[htk,List.map_append];rfl)
  ·have hA:¬ (i:Int)<(L.length:Int):=aw;obtain rfl:i=L.length:=aw;rw[List.take_length]at hrow;simp -dsimp only[go_sem,h12,k11,hA];exact⟨(aA hK),hKB,hKE,Own.mk hg h5 au hrow⟩
 ·rintro e τ β ε π hK hKB hKE ⟨rfl,g,mm,hg,h5,hrow⟩;refine⟨_,bA.refl _,?_⟩;rw[az]at h5;simp -dsimp only[go_sem,h5,hrow,hg];simp[Function.comp_def]
theorem Pj (rs:List (List C)):FnC Tryz.prog 95 [.c (.lst rs)] 136 [[.lst rs]]:=by
 refine rh kd (fn:=Tryz.f95) av rfl rfl rfl av au av ?_;simp -dsimp only[go_sem,jW];refine lU (ts:=[(1,1)]) (by simp -dsimp only[go_sem]) (by simp -dsimp only[go_sem]) ?_;simp -dsimp only[go_sem,xz];exact⟨[(1,1)],rfl,au,au,rfl⟩
theorem MD (l:List F2) (hl:l.length<=1099511627776):JU Tryz.prog 136 [[.lst (l.map fr2)]] (wk (fun x=>iF x.1 x.2) l):=by
 refine oZ (fn:=Tryz.f136) av rfl rfl rfl av au av ?_;intro c hc hbl hL;rw[zx];have hb1:c.bs.length=1:=hbl;refine WPi.seq_k hc kd fun K hK _=>?_;simp -dsimp only[go_sem,az]
 repeat(refine And.intro aw ?_)
 refine hK _ (cN hb1) ?_;refine WPi.block (WPi.loop (fun n s k=>∃ τ,s=⟨τ,upd ms 1000 ⟨1,[.lst (l.map fr2)]⟩,og,nh⟩/\τ 0=sc (.func (.yield c.l) #[] #[])/\τ 1 = .bp 1000 1 0/\n<=l.length/\τ 3 = .i (iN ((n:Int)-1))/\k=some (l.length-n)) (n:=l.length) ⟨_,rfl,rfl,rfl,ay _,rfl,au⟩ ?_);rintro n s k ⟨τ,rfl,h0,h1,hn,h3,rfl⟩;refine WPi.seq_k hc kd fun K hK hK2=>?_;cases n with
 | zero =>
  have e1:decide ((0:Int)<=((0:Nat):Int)-1)=false:=rfl;simp -dsimp only[go_sem,h3,e1];refine hK2 _ _ au (cN hb1) ?_;refine⟨.inl rfl,.inl ?_⟩;rw[jE];simp
 | succ n =>
  have en:((n+1:Nat):Int)-1=(n:Int):=aw;rw[en]at h3;have e1:decide ((0:Int)<=(n:Int))=true:=aF aw;have hg:l[n]?=some l[n]:=aD aw;simp -dsimp only[go_sem,h3,e1];refine hK _ (cN hb1) ?_;refine WPi.seq ?_;refine WPi.block ?_;refine WPi.seq ?_;refine WPi.yreg_k hc kd 6 17 (l.length-(n+1)) [iN (n:Int),iF l[n].1 l[n].2] rfl rfl rfl rfl (by rw[hL];exact nY _ _ aw) fun K1 K2 hK1 hK2=>?_;simp -dsimp only[go_sem,h0,h1,h3];refine aQ hg ?_;simp -dsimp only[go_sem,h0,h1,h3,fr2];refine⟨cN hb1,rfl,?_⟩;refine⟨hK1 _ (cN hb1) ?_,hK2 _ (cN hb1) ?_⟩
  ·refine WPi.end_k hc kd fun K hK=>?_;simp -dsimp only[go_sem];refine hK _ _ (cN hb1) ?_;refine WPi.end_k hc kd fun K hK=>?_;simp -dsimp only[go_sem,h3]
   repeat(refine And.intro aw ?_)
   refine hK _ _ (cN hb1) ?_;refine⟨n,aw,_,rfl,h0,h1,aw,rfl,?_⟩;congr 1;omega
  ·refine WPi.end_k hc kd fun K hK=>?_;simp -dsimp only[go_sem];refine hK _ _ (cN hb1) ?_;exact⟨.inr rfl,.inr rfl⟩
theorem QJ (l:List F2) (v:Nat) (hv:v<4) (hl:l.length<=1099511627776) (o:Nat->F2) (h0:Fn Tryz.prog 63 [iN 0] [.g (fr2 (o 0))])
  (H:∀(k:Nat) (h:k<l.length),∃ m:F2,Fn Tryz.prog 65 [.g (fr2 (o k)),iF [(e0.to v 1,1)] one1] [.g (fr2 m)]/\Fn Tryz.prog 64 [.g (fr2 m),.g (fr2 l[l.length-(k+1)])] [.g (fr2 (o (k+1)))]) :
  Fn Tryz.prog 48 [fl l,iN v] [.g (fr2 (o l.length))]:=by
 refine n8 (fn:=Tryz.f48) av rfl rfl rfl av au av ?_;refine WPn.seq_k kd fun K hK _=>?_;simp -dsimp only[go_sem];refine hK _ ?_;refine WPn.seq_k kd fun K hK _=>?_;simp -dsimp only[go_sem];refine aK h0 ?_;simp -dsimp only[go_sem];refine⟨rfl,hK _ ?_⟩;refine WPn.seq ?_;refine WPn.seq_k kd fun K hK _=>?_;simp -dsimp only[go_sem];refine nX [1000] rfl rfl rfl (Pj (l.map fr2)) au rfl ?_;rw[zY];simp -dsimp only[go_sem];refine hK _ (WPn.block (WPn.rangeFunc (ts:=[(1000,1)]) [3,5] (fun k cs=>cs=[[C.v (.int .i64 (v:Int))],fr2 (o k)]) (fun _ _=>False) (by simp -dsimp only[go_sem]) (by simp -dsimp only[go_sem]) au rfl (MD l hl) au (by simp -dsimp only[go_sem];decide) ?_ ?_ ?_ ?_ ?_))
 ·simp -dsimp only[go_sem];rfl
 ·intro x hx;obtain⟨p,-,rfl⟩:=List.mem_map.1 hx;rfl
 ·rintro k x cs hx rfl -;have hk:k<l.length:=by
   have:=(List.getElem?_eq_some_iff.1 hx).1;rwa [jE]at this
  have hx2:=nY (fun x:F2=>iF x.1 x.2) l (i:=l.length-(k+1)) aw;rw[show l.length-(l.length-(k+1)+1)=k by omega,hx]at hx2;cases hx2;obtain⟨m,H1,H2⟩:=H k hk;generalize hs:bX _ _ _ _ _=s;obtain⟨τ,β,ε,π⟩:=s;have h12:τ 12 = .i (iF l[l.length-(k+1)].1 l[l.length-(k+1)].2):=by
   rw[rN hs];simp -dsimp only[go_sem,bX,je]
  have h3:τ 3 = .bp 3 1 0:=by
   rw[rN hs];simp -dsimp only[go_sem,bX,je];rw[oC]<;>simp -dsimp only[go_sem]
  have h5:τ 5 = .bp 5 1 0:=by
   rw[rN hs];simp -dsimp only[go_sem,bX,je];rw[oC]<;>simp -dsimp only[go_sem]
  have b3:β 3=⟨1,[C.v (.int .i64 (v:Int))]⟩:=by
   rw[Cz hs];simp -dsimp only[go_sem,bX,eP]
  have b5:β 5=⟨1,fr2 (o k)⟩:=by
   rw[Cz hs];simp -dsimp only[go_sem,bX,eP]
  clear hs;generalize l[l.length-(k+1)]=y at *
  refine WP.end_k kd fun K hK=>?_;simp -dsimp only[go_sem,h12];refine hK _ _ ⟨rfl,?_⟩;refine WP.end_k kd fun K hK=>?_;simp -dsimp only[go_sem,h12,h3,h5,b3,b5];refine ap 6 [] false true ?_;simp -dsimp only[go_sem,h12,h3,h5,b3,b5];refine ao (Mr v hv) rfl ?_;simp -dsimp only[go_sem,h12,h3,h5,b3,b5,fr2];refine ao H1 rfl ?_;simp -dsimp only[go_sem,h12,h3,h5,b3,b5,fr2];refine ao H2 rfl ?_;simp -dsimp only[go_sem,h12,h3,h5,b3,b5,fr2];refine hK _ _ ⟨by simp -dsimp only[go_sem,b3],?_⟩;simp -dsimp only[go_sem,b3];rfl
 ·rintro cs γs rfl-hγ;obtain⟨g,rfl⟩:=List.length_eq_one_iff.1 hγ;rw[jE];rw[iA,jm];refine WPn.end_k kd fun K hK=>?_;dsimp only[List.map,setB];simp -dsimp only[go_sem,fr2];refine hK _ _ ⟨.inr rfl,?_⟩;simp -dsimp only[go_sem,fr2]
 ·intro e cs γs _ h;exact h.elim
end Go.AM
namespace Alg
open Classical
section
variable {F:Type} [CR F] [Fd F]
theorem X_c (i:Nat):(ak:P F).c i=if i=1 then 1 else 0:=rfl
theorem zk (c:F) (i:Nat):(ak-an c).c i=if i=0 then -c else if i=1 then 1 else 0:=by
 rw[iS,X_c]
 match i with
 | 0=>rw[if_neg aw,nv,if_pos rfl,sub_eq,zero_add]
 | 1=>rw[if_pos rfl,dV,sub_zero];rfl
 | i+2=>rw[if_neg aw,dV,sub_zero];rfl
theorem fB (c:F):aa (ak-an c)=2:=kg (fun i hi=>by rw[zk,if_neg aw,if_neg aw]) fun _=>by rw[zk,if_neg aw,if_pos rfl];exact one_ne
theorem jO (c:F):(ak-an c:P F)≠0:=fun h=>by
 have:=fB c;rw[h,aM.2 rfl]at this;omega
theorem BP (c:F):lc (ak-an c)=1:=by rw[lc,fB,zk,if_neg aw,if_pos rfl]
theorem K9 (c:F):der (ak-an c)=1:=by rw[LF,Qt,Qu,sub_zero]
theorem mX:aa (1:P F)=1:=jo (R:=F) one_ne
theorem y4:(1:P F)≠0:=fg (R:=F) one_ne
theorem tz {a b q r:P F} (h:a=q*b+r) (hr:aa r<aa b):ab a b=r:=(kj h hr).2
theorem PR {a b q r:P F} (h:a=q*b+r) (hr:aa r<aa b):qu a b=q:=(kj h hr).1
theorem tw {a b q:P F} (hb:b≠0) (h:a=q*b):ab a b=0:=tz (q:=q) (by rw[h,add_zero]) (by rw[aM.2 rfl];exact aR hb)
theorem lH {a b q:P F} (hb:b≠0) (h:a=q*b):qu a b=q:=PR (q:=q) (r:=0) (by rw[h,add_zero]) (by rw[aM.2 rfl];exact aR hb)
theorem iJ {a:P F} {c:F} (hc:c≠0):ab a (an c)=0:=tw (q:=a*an (inv c)) (fg hc) (by rw[mul_assoc,<-bB,cn hc,ci,mul_one])
theorem eu1 {a b:P F} (hb:b≠0) (h:ab a b=0):eu a b=[(a,b)]:=by rw[kt hb,h,jr]
theorem eu2 {a b r:P F} (hb:b≠0) (h:ab a b=r) (hr:r≠0) (h2:ab b r=0):eu a b=[(a,b),(b,r)]:=by rw[kt hb,h,eu1 hr h2]
theorem eu3 {a b r s:P F} (hb:b≠0) (h:ab a b=r) (hr:r≠0) (h2:ab b r=s) (hs:s≠0) (h3:ab r s=0):eu a b=[(a,b),(b,r),(r,s)]:=by rw[kt hb,h,eu2 hr h2 hs h3]
theorem gd1 {a b:P F} (hb:b≠0) (h:ab a b=0):ai a b=mn b:=by
 rw[<-DK hb,h,lZ]
theorem gd2 {a b r:P F} (hb:b≠0) (h:ab a b=r) (hr:r≠0) (h2:ab b r=0):ai a b=mn r:=by
 rw[<-DK hb,h,gd1 hr h2]
theorem P9 {c:F} (hc:c≠0):mn (an c)=1:=by rw[mn,oH,<-bB,cn hc,ci]
theorem Od (c:F):mn (ak-an c)=ak-an c:=pC (BP c)
end
def PC (w:Nat) (p:P KQ):Prop:=∃(B:P Int) (A:Nat->P Int),B≠0/\(∀ i,p.c i*em (toQ B)=em (toQ (A i)))/\aa B<=w+1/\n1 B<=2 ^ w/\∀ i,aa (A i)<=w+1/\n1 (A i)<=2 ^ w
theorem PC.mono {w v:Nat} {p:P KQ} (h:PC w p) (hv:w<=v):PC v p:=by
 obtain⟨B,A,h1,h2,h3,h4,h5⟩:=h;exact⟨B,A,h1,h2,aw,ax h4 (cS hv),fun i=>⟨by have:=(h5 i).1;omega,ax (h5 i).2 (cS hv)⟩⟩
theorem PC.fb {w:Nat} {p:P KQ} (h:PC w p) (i:Nat):FB w (p.c i):=by
 obtain⟨B,A,h1,h2,h3,h4,h5⟩:=h;exact⟨A i,B,h1,Ov (dx h1) (h2 i),(h5 i).1,(h5 i).2,h3,h4⟩
theorem wZ {A:P Int}:toQ A=0↔A=0:=⟨fun h=>Classical.byContradiction fun h'=>dx h' h,fun h=>by rw[h,cX]⟩
theorem Dq {p:P KQ} {A:Nat->P Int} {B:P Int} (h:∀ i,p.c i*em (toQ B)=em (toQ (A i))) {i:Nat} (hi:p.c i=0):A i=0:=by
 have:=h i;rw[hi,zero_mul,<-nT]at this;exact wZ.1 (xA this).symm
theorem BJ {H:Nat}:∀(n s:Nat) {f:Nat->Nat->P Int},(∀ i j,s<=i->f i j=0)->(∀ i j,n1 (f i j)<=H)->n1 (tri f n)<=s*H
 | 0,s,f,hz,hH=>by
  cases s with
  | zero=>simp only[tri];rw[hz 0 0 (ay _),iw];omega
  | succ s=>simp only[tri];exact ax (hH 0 0) (Nat.le_mul_of_pos_left _ aw)
 | n+1,s,f,hz,hH=>by
  simp only[tri];cases s with
  | zero =>
   rw[hz 0 _ (ay _),zero_add];exact BJ n 0 (f:=fun i j=>f (i+1) j) (fun i j _=>hz _ _ aw) (fun i j=>hH _ _)
  | succ s =>
   have h1:=BJ n s (f:=fun i j=>f (i+1) j) (fun i j h=>hz _ _ aw) (fun i j=>hH _ _);have h2:=lS (f 0 (n+1)) (tri (fun i j=>f (i+1) j) n);have h3:=hH 0 (n+1);rw[Nat.succ_mul];omega
theorem G7 {N:Nat}:∀(n:Nat) {f:Nat->Nat->P Int},(∀ i j,aa (f i j)<=N)->aa (tri f n)<=N
 | 0,f,h=>h 0 0
 | n+1,f,h=>by
  simp only[tri];exact dc (h _ _) (G7 n fun i j=>h _ _)
theorem IX:∀(n:Nat) (f:Nat->Nat->P Int),em (toQ (tri f n))=tri (fun i j=>em (toQ (f i j))) n
 | 0,f=>rfl
 | n+1,f=>by
  simp only[tri];rw[kf,uw,IX n]
theorem PC.mul {w v k:Nat} {p q:P KQ} (h:PC w p) (h':PC v q) (hk:aa p<=2 ^ k):PC (w+v+k) (p*q):=by
 obtain⟨B,A,h1,h2,h3,h4,h5⟩:=h;obtain⟨B',A',k1,k2,k3,k4,k5⟩:=h';refine⟨B*B',fun n=>tri (fun i j=>A i*A' j) n,a7 h1 k1,fun n=>?_,?_,?_,fun n=>⟨?_,?_⟩⟩
 ·rw[IX,ia,mul_comm,<-rX];refine d6 fun i j _=>?_;rw[cm,oJ,cm,oJ,<-h2,<-k2];exact ring [p.c i,q.c j,em (toQ B),em (toQ B')]
 ·have:=f8 h3 k3;omega
 ·exact ax (i7 _ _) (ax (bh h4 k4) (cS aw))
 ·exact ax (G7 (N:=w+v+1) n (f:=fun i j=>A i*A' j) fun i j=>f8 (h5 i).1 (k5 j).1) aw
 ·have:=BJ (H:=2 ^ (w+v)) n (aa p) (f:=fun i j=>A i*A' j) (fun i j hi=>by rw[Dq h2 (aP hi),zero_mul]) fun i j=>ax (i7 _ _) (bh (h5 i).2 (k5 j).2);refine ax this (ax (bh hk (ay _)) (cS aw))
theorem PC.add {w v:Nat} {p q:P KQ} (h:PC w p) (h':PC v q):PC (w+v+1) (p+q):=by
 obtain⟨B,A,h1,h2,h3,h4,h5⟩:=h;obtain⟨B',A',k1,k2,k3,k4,k5⟩:=h';refine⟨B*B',fun i=>A i*B'+A' i*B,a7 h1 k1,fun i=>?_,?_,?_,fun i=>⟨?_,?_⟩⟩
 ·rw[cd,cm,oJ,kf,uw,cm,oJ,cm,oJ,<-h2,<-k2];exact ring [p.c i,q.c i,em (toQ B),em (toQ B')]
 ·have:=f8 h3 k3;omega
 ·exact ax (i7 _ _) (ax (bh h4 k4) (cS aw))
 ·refine dc ?_ ?_
  ·have:=f8 (h5 i).1 k3;omega
  ·have:=f8 (k5 i).1 h3;omega
 ·have e1:=ax (i7 (A i) B') (bh (h5 i).2 k4);have e2:=ax (i7 (A' i) B) (bh (k5 i).2 h4);rw[Nat.add_comm v w]at e2;exact ax (lS _ _) (jZ e1 e2)
theorem PC.neg {w:Nat} {p:P KQ} (h:PC w p):PC w (-p):=by
 obtain⟨B,A,h1,h2,h3,h4,h5⟩:=h;exact⟨B,fun i => -A i,h1,fun i=>by rw[wj,neg_mul,h2,ph,Cc],h3,h4,fun i=>by rw[kC,qG];exact h5 i⟩
theorem PC.sub {w v:Nat} {p q:P KQ} (h:PC w p) (h':PC v q):PC (w+v+1) (p-q):=by rw[sub_eq];exact h.add h'.neg
theorem PC.C {w:Nat} {c:KQ} (h:FB w c):PC w (an c):=by
 obtain⟨A,B,h1,h2,h3,h4,h5,h6⟩:=h;refine⟨B,fun i=>if i=0 then A else 0,h1,fun i=>?_,h5,h6,fun i=>?_⟩
 ·cases i with
  | zero=>dsimp only;rw[if_pos rfl,nv,h2,vX (dx h1)]
  | succ i=>dsimp only;rw[if_neg aw,dV,zero_mul,cX,nT]
 ·dsimp only;split
  ·exact⟨h3,h4⟩
  ·exact⟨by rw[aM.2 rfl];omega,by rw[iw];exact Nat.zero_le _⟩
theorem PC.lin {w:Nat} {c:KQ} (h:FB w c):PC w (ak-an c):=by
 obtain⟨A,B,h1,h2,h3,h4,h5,h6⟩:=h;refine⟨B,fun i=>if i=0 then -A else if i=1 then B else 0,h1,fun i=>?_,h5,h6,fun i=>?_⟩
 ·dsimp only;rw[zk];by_cases h0:i=0
  ·rw[if_pos h0,if_pos h0,h2,neg_mul,vX (dx h1),ph,Cc]
  ·rw[if_neg h0,if_neg h0];by_cases h9:i=1
   ·rw[if_pos h9,if_pos h9,one_mul]
   ·rw[if_neg h9,if_neg h9,zero_mul,cX,nT]
 ·dsimp only;split
  ·exact⟨by rw[kC];exact h3,by rw[qG];exact h4⟩
  ·split
   ·exact⟨h5,h6⟩
   ·exact⟨by rw[aM.2 rfl];omega,by rw[iw];exact Nat.zero_le _⟩
theorem P4 (n:Nat):n1 (nc n:P Int)<=n:=by
 induction n with
 | zero=>exact Nat.le_of_eq iw
 | succ n ih =>
  have h1:n1 (1:P Int)<=1:=by
   rw[gz (n:=1) (by rw[show aa (1:P Int)=1 from jo (R:=Int) aH];exact ay _)];exact ay 1
  have:=lS (nc n:P Int) 1;show n1 (nc n+1:P Int)<=_;omega
theorem Qp (n:Nat):em (toQ (nc n:P Int))=(nc n:KQ):=by
 induction n with
 | zero=>exact(congrArg em cX).trans nT
 | succ n ih =>
  show em (toQ (nc n+1:P Int))=nc n+1;rw[kf,uw,ih,pf,OC]
theorem PJ (n:Nat):aa (nc n:P Int)<=1:=by rw[<-Pd];exact cv fun i hi=>by cases i with|zero=>omega|succ i=>rfl
theorem PC.der {w k:Nat} {p:P KQ} (h:PC w p) (hk:aa p<=2 ^ k):PC (w+k) (der p):=by
 obtain⟨B,A,h1,h2,h3,h4,h5⟩:=h;refine⟨B,fun i=>if aa p<=i then 0 else nc (i+1)*A (i+1),h1,fun i=>?_,aw,ax h4 (cS aw),fun i=>?_⟩
 ·dsimp only;rw[jV,mul_assoc,h2];split
  ·rename_i hi;rw[Dq h2 (aP (p:=p) (i:=i+1) aw),cX,nT,mul_zero]
  ·rw[cm,oJ,Qp]
 ·dsimp only;split
  ·exact⟨by rw[aM.2 rfl];omega,by rw[iw];exact Nat.zero_le _⟩
  ·rename_i hi;refine⟨?_,?_⟩
   ·have:=bf (nc (i+1):P Int) (A (i+1));have:=PJ (i+1);have:=(h5 (i+1)).1;omega
   ·refine ax (i7 _ _) ?_;rw[Nat.add_comm w k];exact bh (ax (P4 _) aw) (h5 _).2
end Alg
namespace Go.AM
open Alg
open Go.Proofs
open Classical
theorem PC.pw {w:Nat} {p:KP} (h:Alg.PC w p):PW w p:=fun i=>h.fb i
theorem wD2 (w v:Nat) {n:Nat} (h:n<=2):wD w v n<=4*w+6*v+3:=by
 refine ax (jj w v h) ?_;simp only[wD];omega
theorem oY {p q:KP} {w v:Nat} (hq0:q≠0) (hp:PW w p) (hq:PW v q) (hn:aa p<=aa q+1) (hb:4*w+6*v+3<=1000) (hs:aa q<=900):Fn Tryz.prog 82 [ku p,ku q] [ku (ab p q)] :=
 KReP hq0 hp hq (ax (wD2 w v aw) hb) aw aw aw
theorem AD {p q:KP} {w v:Nat} (hq0:q≠0) (hp:PW w p) (hq:PW v q) (hn:aa p<=aa q+1) (hb:4*w+6*v+3<=1000) (hs:aa q<=900):Fn Tryz.prog 81 [ku p,ku q] [ku (qu p q)] :=
 JO hq0 hp hq (ax (wD2 w v aw) hb) aw aw aw
theorem JR {a:KP} {w:Nat} (ha:PW w a) (hw:2*w<=1000) (hs:aa a<=900):Fn Tryz.prog 24 [ku a,ku 0] [ku (ai a 0)] :=
 x6 (fun x hx=>by rw[jr]at hx;simp at hx) (by rw[nl];exact sF ha hw aw)
theorem JQ {a b:KP} {v:Nat} (hb0:b≠0) (hb:PW v b) (hv:2*v<=1000) (hs:aa b<=900) (hr:ab a b=0) (c1:Fn Tryz.prog 82 [ku a,ku b] [ku (ab a b)]):Fn Tryz.prog 24 [ku a,ku b] [ku (ai a b)] :=
 x6 (fun x hx=>by rw[eu1 hb0 hr]at hx;simp at hx;subst hx;exact c1) (by rw[pP hb0,hr,nl];exact sF hb hv aw)
theorem JP {a b r:KP} {v:Nat} (hb0:b≠0) (hr:ab a b=r) (hr0:r≠0) (h2:ab b r=0) (hw:PW v r) (hv:2*v<=1000) (hs:aa r<=900) (c1:Fn Tryz.prog 82 [ku a,ku b] [ku (ab a b)]) (c2:Fn Tryz.prog 82 [ku b,ku r] [ku (ab b r)]):Fn Tryz.prog 24 [ku a,ku b] [ku (ai a b)] :=
 x6 (fun x hx=>by
  rw[eu2 hb0 hr hr0 h2]at hx;simp at hx;rcases hx with rfl|rfl
  ·exact c1
  ·exact c2) (by rw[pP hb0,hr,pP hr0,h2,nl];exact sF hw hv aw)
theorem QB1 (k:Nat) (h:2<=k):QB k 1:=⟨ax (fC (k:=1) aH) aw,ax (fC (k:=1) aH) aw⟩
def T1 (t:Tm):Prop:=cT t.1/\t.1.lt 1099511627776/\t.2=1
theorem T1.tok {t:Tm} (h:T1 t):Tok t:=⟨h.1,h.2.1,by rw[h.2.2];decide,by rw[h.2.2];exact QB1 _ aw⟩
theorem T1.q {t:Tm} (h:T1 t) {k:Nat} (hk:2<=k):QB k t.2:=by rw[h.2.2];exact QB1 _ hk
theorem T1.l {t:Tm} (h:T1 t):t.1.lt 2305843009213693952:=by
 obtain⟨-,h,-⟩:=h;unfold Ex.lt at h ⊢;omega
abbrev ma:List Tm:=[(⟨1,0,0,0⟩,1)]
abbrev mb:List Tm:=[(⟨0,1,0,0⟩,1)]
abbrev mbb:List Tm:=[(⟨0,2,0,0⟩,1)]
abbrev mabb:List Tm:=[(⟨1,2,0,0⟩,1)]
abbrev mab:List Tm:=[(⟨1,1,0,0⟩,1)]
abbrev mab1:List Tm:=[(⟨1,1,0,0⟩,1),(e0,1)]
abbrev mL:List Tm:=[(⟨1,2,0,0⟩,1),(⟨0,1,0,0⟩,1)]
theorem oA (a b:Nat) (ha:a<=5) (hb:b<=5):T1 (⟨a,b,0,0⟩,1):=⟨by simp[cT],by simp[Ex.lt];omega,rfl⟩
theorem qn {L:List Tm} (h:∃ l:List (Nat×Nat),L=l.map (fun p=>((⟨p.1,p.2,0,0⟩:Ex),(1:Rat)))/\∀ p∈l,p.1<=5/\p.2<=5):∀ t∈L,T1 t:=by
 obtain⟨l,rfl,h⟩:=h;intro t ht;obtain⟨p,hp,rfl⟩:=List.mem_map.1 ht;exact oA _ _ (h p hp).1 (h p hp).2
theorem P6 (t u:Tm) (hu:u.2=1):tN [t] [u]=[(t.1.add u.1,t.2)]:=by
 simp only[tN,List.foldl_cons,List.foldl_nil,gT,fo,m8,hu,List.map_cons,List.map_nil];rw[if_neg aH,show t.2*(1:Rat)=t.2 from Rat.mul_one _]
theorem Ni (t u:Tm) (ht:T1 t) (hu:T1 u):Fn Tryz.prog 57 [iM [t],iM [u]] [iM [(t.1.add u.1,1)]]:=by
 have:=Ap [t] [u] au au (fun x hx=>by simp at hx;subst hx;exact ht.q aw) (fun x hx=>by simp at hx;subst hx;exact hu.q aw) (fun x hx=>by simp at hx;subst hx;exact ht.l) (fun x hx=>by simp at hx;subst hx;exact hu.l)
  (fun i hi=>by
   obtain rfl:i=0:=by simp at hi;omega
   refine⟨fun x hx=>by simp[tN]at hx,fun x hx=>?_,by simp[tN]⟩;simp only[List.getElem_cons_zero,fo,m8,hu.2.2,List.map_cons,List.map_nil]at hx;rw[if_neg aH]at hx;simp at hx;subst hx;rw[ht.2.2];exact QB1 _ aw)
 rwa [P6 _ _ hu.2.2,ht.2.2]at this
theorem PN:Fn Tryz.prog 57 [iM mb,iM mb] [iM mbb]:=Ni _ _ (oA 0 1 aw aw) (oA 0 1 aw aw)
theorem MK:Fn Tryz.prog 57 [iM ma,iM mbb] [iM mabb]:=Ni _ _ (oA 1 0 aw aw) (oA 0 2 aw aw)
theorem QC:gv mabb mb=mL:=by
 rw[jG,if_pos aH,gT]
theorem sML:Fn Tryz.prog 56 [iM mabb,iM mb] [iM mL]:=by
 have:=p9 mabb mb au (fun x hx=>by simp at hx;subst hx;exact QB1 _ aw) (fun x hx=>by simp at hx;subst hx;exact QB1 _ aw);rwa [QC]at this
abbrev cs3:List F2:=[([],one1),(one1,one1),(ma,one1)]
theorem PP:Fn Tryz.prog 43 [iM mL,iN 1] [fl cs3]:=by
 have h:=wJ mL 1 aw au (fun t ht=>by
  simp at ht;rcases ht with rfl|rfl
  ·exact⟨aH,aH⟩
  ·exact⟨aH,aH⟩) aH au
 rw[show pS mL 1=[[],one1,ma]by decide +kernel]at h;exact Mq (v:=1) au h
theorem Io (n:PQ):kr (Alg.em n)=fr2 (U n,one1):=by
 obtain⟨h1,h2⟩:=HX n;rw[kr,h1,h2,wo];rfl
theorem DC:kr 0=fr2 ([],one1):=by
 have:=Io 0;rwa [cr]at this
theorem U_Xm:U ak=ma:=Ak 1 aH
noncomputable abbrev xK:KQ:=Alg.em ak
theorem OH:fl cs3=kl [0,1,xK]:=by
 have e1:kr 1=fr2 (one1,one1):=by
  have:=Io 1;rwa [wo]at this
 have e2:kr xK=fr2 (ma,one1):=by
  have:=Io ak;rwa [U_Xm]at this
 show IV.c (.lst _)=IV.c (.lst _);simp only[List.map_cons,List.map_nil,DC,e1,e2]
theorem Nj (a:List Tm) (u:Tm) (R:List Tm) (ha:∀ t∈a,T1 t) (hu:T1 u) (hl:a.length<=2) (hm:FG a [u]=R) (hq:∀ i<a.length,∀ e q,(e,q)∈sumM (a.take i) [u] []->q=1):Fn Tryz.prog 111 [iM a,iM [u]] [iM R]:=by
 have:=xZ a [u] aw au (fun t ht=>(ha t ht).l) (fun t ht=>by simp at ht;subst ht;exact hu.l) (fun t ht=>(ha t ht).q aw) (fun t ht=>by simp at ht;subst ht;exact hu.q aw)
  (by
   intro i j hi hj;have hj':j<1:=hj;obtain rfl:j=0:=aw;refine⟨?_,fun e q hq'=>?_⟩
   ·show QB _ (a[i].2*u.2);rw[(ha _ (List.getElem_mem hi)).2.2,hu.2.2,show(1:Rat)*1=1 from Rat.mul_one 1];exact QB1 8589934592 aw
   ·rw[hq i hi e q hq'];exact QB1 _ aw)
 rwa [hm]at this
theorem same1:Fn Tryz.prog 138 [iM one1,iM one1] [iB true]:=by
 have:=AI one1 one1 au (fun t ht=>by simp at ht;subst ht;exact QB1 _ aw) (fun t ht=>by simp at ht;subst ht;exact QB1 _ aw);rwa [aF rfl]at this
theorem mul11:Fn Tryz.prog 111 [iM one1,iM one1] [iM one1]:=Nj one1 (e0,1) one1 (qn ⟨[(0,0)],rfl,au⟩) (oA 0 0 aw aw) au aE (fun i hi e q h=>by
 obtain rfl:i=0:=by simp at hi;omega
 simp[sumM]at h)
theorem J5 (a:List Tm) (u:Tm) (R:List Tm) (ha:∀ t∈a,T1 t) (hu:T1 u) (hl:a.length<=2) (hm:FG a [u]=R) (hq:∀ i<a.length,∀ e q,(e,q)∈sumM (a.take i) [u] []->q=1) (hR:∀ t∈R,T1 t) (lR:R.length<=2) :
  Fn Tryz.prog 65 [iF a one1,iF [u] one1] [iF R one1]:=Eo (Nj a u R ha hu hl hm hq) mul11 (AG R aw fun t ht=>(hR t ht).tok)
theorem J6 (a b R:List Tm) (ha:∀ t∈a,T1 t) (hb:∀ t∈b,T1 t) (hla:a.length<=2) (hlb:b.length<=2) (hm:gv a b=R) (hR:∀ t∈R,T1 t) (lR:R.length<=2):Fn Tryz.prog 64 [iF a one1,iF b one1] [iF R one1]:=by
 have h:=x5 a b aw (fun t ht=>(ha t ht).q aw) (fun t ht=>(hb t ht).q aw);rw[hm]at h;exact Ep (qj same1 h (AG R aw fun t ht=>(hR t ht).tok)) ⟨_,_,rfl⟩ ⟨_,_,rfl⟩ ⟨_,_,rfl⟩
def oT:Nat->F2
 | 0=>([],one1)
 | 1=>(ma,one1)
 | 2=>(mab1,one1)
 | _=>(mL,one1)
theorem sTo:Fn Tryz.prog 48 [fl cs3,iN 1] [iF mL one1]:=by
 have ta:∀ t∈ma,T1 t:=qn ⟨[(1,0)],rfl,au⟩;have t1:∀ t∈one1,T1 t:=qn ⟨[(0,0)],rfl,au⟩;have tab:∀ t∈mab,T1 t:=qn ⟨[(1,1)],rfl,au⟩;have tab1:∀ t∈mab1,T1 t:=qn ⟨[(1,1),(0,0)],rfl,au⟩;have tL:∀ t∈mL,T1 t:=qn ⟨[(1,2),(0,1)],rfl,au⟩;have t0:∀ t∈([]:List Tm),T1 t:=au;have tb:T1 (⟨0,1,0,0⟩,1):=oA 0 1 aw aw;refine QJ cs3 1 aw au oT ?_ fun k hk=>?_
 ·have:=cC 0 aH;have e:IV.g (fr2 (oT 0))=iK (kn 0):=by
   rw[fO];show IV.g (fr2 ([],one1))=IV.g (kr 0);rw[DC]
  rw[e];exact this
 ·have hk3:k<3:=hk;obtain rfl|rfl|rfl:k=0\/k=1\/k=2:=aw
  ·exact⟨([],one1),J5 [] _ [] t0 tb au aE (fun i hi=>absurd hi au) t0 au,J6 [] ma ma t0 ta au au (gT _) ta au⟩
  ·refine⟨(mab,one1),J5 ma _ mab ta tb au aE (fun i hi e q h=>?_) tab au,J6 mab one1 mab1 tab t1 au au ?_ tab1 au⟩
   ·obtain rfl:i=0:=by simp at hi;omega
    simp[sumM]at h
   ·rw[jG,if_pos aH,gT]
  ·refine⟨(mL,one1),J5 mab1 _ mL tab1 tb au aE (fun i hi e q h=>?_) tL au,J6 mL [] mL tL t0 au au (jF _) tL au⟩;have hi':i<2:=hi;obtain rfl|rfl:i=0\/i=1:=aw
   ·simp[sumM]at h
   ·simp[sumM,rowM,addT]at h;exact h.2
theorem PM:Fn Tryz.prog 49 [iM mL] [iF mL one1]:=by
 have:=wA mL;rwa [wo]at this
theorem NX:Fn Tryz.prog 41 [iF mL one1,iF mL one1] [iB true]:=by
 have tq:∀ L:List Tm,(L=mL\/L=one1)->∀ t∈L,QB 17179869184 t.2:=fun L hL t ht=>by
  rcases hL with rfl|rfl<;>simp at ht
  ·rcases ht with rfl|rfl<;>exact QB1 _ aw
  ·subst ht;exact QB1 _ aw
 have e1:=qX mL mL au (tq _ (.inl rfl)) (tq _ (.inl rfl));have e2:=qX one1 one1 au (tq _ (.inr rfl)) (tq _ (.inr rfl));rw[aF rfl]at e1 e2;have h87:Fn Tryz.prog 87 [iF mL one1,iF mL one1] [iB true]:=by
  refine aJ (fn:=Tryz.f87) ?_;simp -dsimp only[go_sem,Int.reduceToNat,Int.reduceLE,aC];refine ao e1 rfl ?_;simp -dsimp only[go_sem,Int.reduceToNat,Int.reduceLE,aC];refine ao e2 rfl ?_;simp -dsimp only[go_sem]
 refine aJ (fn:=Tryz.f41) ?_;simp -dsimp only[go_sem];refine ao h87 rfl ?_;simp -dsimp only[go_sem]
end Go.AM
namespace Alg
open Classical
section
variable {F:Type} [CR F] [Fd F]
theorem K8 (a b:F):(ak-an a)-(ak-an b)=an (b-a):=by rw[J7];exact ring [ak,an a,an b]
theorem NU {a b:F} (h:a≠b):b-a≠0:=fun e=>h (by
 have:=congrArg (· + a) e;simp only[sub_eq,zero_add]at this;rw[add_assoc,neg_add,add_zero]at this;exact this.symm)
theorem div9 {t:F} (ht:t*ic 9=1) (f g:P F):f*g=an t*(f+f+g)*(g+g+f)+(-(an t*ic 2*(f-g)*(f-g))):=by
 have e:an t*(ic 9:P F)=1:=by rw[<-QN,<-bB,ht,ci]
 have h:f*g*(an t*ic 9)=an t*(f+f+g)*(g+g+f)+(-(an t*ic 2*(f-g)*(f-g))):=ring [f,g,an t];rwa [e,mul_one]at h
theorem Ol {t a b:F} : -(an t*ic 2*((ak-an a)-(ak-an b))*((ak-an a)-(ak-an b)))=an (-(t*ic 2*(b-a)*(b-a))):=by
 rw[K8,lu,bB,bB,bB,QN]
theorem Ic (c:F):(ak-an c).c 1=1:=by rw[zk,if_neg aw,if_pos rfl]
theorem mN (a b:F) (h3:(ic 3:F)≠0):aa ((ak-an b)+(ak-an b)+(ak-an a))=2:=kg (fun i hi=>by rw[cd,cd,aP (by rw[fB];omega),aP (by rw[fB];omega),add_zero,add_zero]) fun _=>by
 show((ak-an b)+(ak-an b)+(ak-an a)).c 1≠0;rw[cd,cd,Ic,Ic];intro e;refine h3 ?_;rw[<-e];exact ring []
theorem k_ne {t a b:F} (h:a≠b) (ht:t≠0) : -(t*(b-a)*(b-a))≠0:=fun e=>by
 have h1:=NU h;have h2:t*(b-a)*(b-a)=0:=by
  have:=congrArg (fun x => -x) e;rwa [neg_neg,gL]at this
 exact a7 (a7 ht h1) h1 h2
end
end Alg
namespace Go.AM
open Alg
open Go.Proofs
open Classical
theorem fQ:xK≠0:=DT fun h=>by
 have:=congrArg aa h;rw[aM.2 rfl,show(ak:PQ)=mon 1 1 from rfl,mM 1 aH]at this;omega
theorem eE:FB 1 xK:=by
 refine⟨ak,1,fg (R:=Int) aH,?_,?_,?_,?_,?_⟩
 ·rw[pf];show xK=Alg.em (toQ ak);rw[show(toQ ak:PQ)=ak from nJ 1 1]
 ·rw[show(ak:Alg.P Int)=mon 1 1 from rfl,mM 1 aH];omega
 ·rw[gz (n:=2) (by rw[show(ak:Alg.P Int)=mon 1 1 from rfl,mM 1 aH];omega)];exact(by decide:1<=2)
 ·rw[show aa (1:Alg.P Int)=1 from jo (R:=Int) aH];omega
 ·rw[gz (n:=1) (by rw[show aa (1:Alg.P Int)=1 from jo (R:=Int) aH];exact ay _)];exact(by decide:1<=2)
theorem vQ {l:List KQ} (h:∀ h:l.length-1<l.length,l[l.length-1]≠0):kl l=ku (ac l):=by
 rw[ku,<-DZ (l:=l) (p:=ac l) (fun i hi=>by rw[rR];simp[List.getD,hi]) (fun i hi=>by rw[rR];simp[List.getD,List.getElem?_eq_none hi]) h]
theorem pl2 (a b:KQ):ac [a,b]=an a+an b*ak:=Alg.P.ext fun i=>by
 rw[rR,cd,bP,X_c]
 match i with
 | 0=>rw[if_neg aw,mul_zero,add_zero];rfl
 | 1=>rw[if_pos rfl,mul_one,dV,zero_add];rfl
 | i+2=>rw[if_neg aw,mul_zero,dV,zero_add];rfl
theorem pl1 (a:KQ):ac [a]=an a:=Alg.P.ext fun i=>by
 match i with
 | 0=>rfl
 | i+1=>rw[dV];rfl
theorem u6:PW 0 (ak:KP):=fun i=>by
 rw[X_c];split
 ·exact i5 (z:=1) aH
 ·exact dz 0
theorem qc {w:Nat} {c:KQ} (h:FB w c):PW w (an c):=fun i=>by
 cases i with
 | zero=>exact h
 | succ i=>exact dz w
theorem CN:PW 0 (1:KP):=qc (i5 (z:=1) aH)
theorem kh:aa (ak:KP)=2:=mM 1 one_ne
theorem Im:kl [kn 0,kn 1]=ku ak:=by
 rw[vQ (fun _=>zu aH),pl2,fO,fp,cu,zero_add,ci,one_mul]
noncomputable abbrev yK:KQ:=Alg.inv xK
theorem xy:(an xK:KP)*an yK=1:=by rw[<-bB,mul_inv fQ,ci]
theorem mB:FB 1 yK:=eE.inv fQ
theorem yk:yK≠0:=eA fQ
noncomputable abbrev dQ:KP:=an (-(yK*yK))+an yK*ak
theorem KB:(ak*ak:KP)=dQ*(an 1+an xK*ak)+an (yK*yK):=by
 have h:dQ*(an 1+an xK*ak)+an (yK*yK)=(ak*ak:KP)-(1-an xK*an yK)*(ak*ak-an yK*ak):=by
  rw[dQ,lu,bB,ci];exact ring [ak,an xK,an yK]
 rw[h,xy,sub_self,zero_mul,sub_zero]
theorem C7:aa (an 1+an xK*ak:KP)=2:=kg (fun i hi=>by
 rw[cd,bP,X_c,if_neg aw,mul_zero,add_zero];cases i with
 | zero=>omega
 | succ i=>rfl) fun _=>by
 show(an 1+an xK*ak:KP).c 1≠0;rw[cd,bP,X_c,if_pos rfl,mul_one,dV,zero_add];exact fQ
theorem fU (c:KQ):aa (an c:KP)<=1:=cv fun i hi=>by cases i with|zero=>omega|succ i=>rfl
theorem JG {c:KQ} {w:Nat} (h:FB w c):PW w (an c*ak:KP):=by
 have:=u6.scale h;rwa [mul_comm,Nat.zero_add]at this
theorem QL:PW 2 (an 1+an xK*ak:KP):=(qc (i5 (z:=1) (w:=0) aH)).add (JG eE)
theorem NY:Fn Tryz.prog 14 [ku ak,ku ak] [ku (ak*ak)]:=rM u6 u6 (by rw[kh];omega) (by rw[kh];omega) (by rw[kh];omega) aw aw
theorem sDiv:Fn Tryz.prog 18 [ku (ak*ak),ku (an 1+an xK*ak)] [ku dQ,ku (an (yK*yK)),iN 0]:=by
 have hq0:(an 1+an xK*ak:KP)≠0:=fun h=>by have:=C7;rw[h,aM.2 rfl]at this;omega
 have hsz:aa (ak*ak:KP)<=3:=by have:=bf (ak:KP) ak;rw[kh]at this;omega
 have h:=vb hq0 (P5 u6 u6) QL (by
  rw[kh,C7];exact ax (wD2 _ _ aw) aw) aw aw (by rw[C7];omega)
 obtain⟨e1,e2⟩:=kj KB (by rw[C7];have:=fU (yK*yK);omega);rwa [e1,e2]at h
noncomputable abbrev lX:KP:=ak-an xK
theorem nC {w:Nat} {c:KQ} (h:FB w c):PW w (ak-an c:KP):=PC.pw (Alg.PC.lin h)
theorem Og:kl [-xK,kn 1]=ku lX:=by
 rw[vQ (fun _=>zu aH),pl2,fp,lu,ci,one_mul];show ku _=ku _;rw[show -an xK+ak=(lX:KP)from ring [an xK,ak]]
theorem MV:kl [kn 1]=ku 1:=DB.symm
theorem reX:ab ak lX=an xK:=tz (q:=1) (ring [ak,an xK]) (by rw[fB];have:=fU xK;omega)
theorem PO:Fn Tryz.prog 24 [ku ak,ku lX] [ku (ai ak lX)] :=
 JP (jO _) reX (fg fQ) (Alg.iJ fQ) (qc eE) aw (by have:=fU xK;omega) (oY (jO _) u6 (nC eE) (by rw[kh,fB];omega) aw (by rw[fB];omega))
  (oY (fg fQ) (nC eE) (qc eE) (by rw[fB,jo fQ];omega) aw (by have:=fU xK;omega))
theorem gdX:ai ak lX=1:=by rw[gd2 (jO _) reX (fg fQ) (Alg.iJ fQ),P9 fQ]
theorem sY {c:KQ} (h:c≠0):aa (an c:KP)=1:=jo h
theorem KA:Fn Tryz.prog 28 [ku ak,ku lX,ku 1] [ku (an yK),ku (-an yK),iN 0]:=by
 have h1:qu 1 (ab ak lX)=an yK:=by
  rw[reX];exact lH (fg fQ) (by rw[mul_comm,xy])
 have szl:aa lX=2:=fB _;have s1:aa (1:KP)=1:=mX;have e1:(1:KP)*an yK=an yK:=one_mul _;have hre:ab (1*an yK) lX=an yK:=tz (q:=0) (by rw[zero_mul,zero_add,e1]) (by rw[szl];have:=fU yK;omega);have wy:PW 1 (an yK:KP):=qc mB;have wyX:PW 2 (an yK*ak:KP):=(JG mB).mono aw;have hsm:=bf (an yK:KP) ak;rw[kh]at hsm;have sy:=fU yK;have hq:qu (1-an yK*ak) lX = -an yK:=lH (jO _) (by
  have : -an yK*lX=an xK*an yK-an yK*ak:=ring [ak,an xK,an yK];rw[this,xy])
 refine va PO (by rw[gdX,mX]) szl (by rw[reX,sY fQ]) (oY (jO _) u6 (nC eE) (by rw[kh,szl];omega) aw (by rw[szl];omega)) ?_ ?_ ?_ ?_ ?_ ?_
 ·rw[reX];exact AD (fg fQ) CN (qc eE) (by rw[s1,sY fQ];omega) aw (by rw[sY fQ];omega)
 ·rw[h1];exact rM CN wy (by rw[s1];omega) (by rw[s1];omega) aw aw aw
 ·rw[h1];have:=oY (p:=1*an yK) (jO xK) (by rw[e1];exact wy) (nC eE) (by rw[e1,fB];omega) aw (by rw[fB];omega);rwa [hre]at this
 ·exact rM wy u6 (ax (Nat.mul_le_mul_right _ sy) aw) aw (by rw[kh];omega) aw aw
 ·exact AB CN wyX aw (by rw[s1];omega) aw
 ·have:=AD (p:=1-an yK*ak) (jO xK) (CN.sub wyX) (nC eE) (by
   rw[fB];have:=fh (p:=(1:KP)) (q:=an yK*ak) (n:=2) (by rw[s1];omega) aw;omega) aw (by rw[fB];omega)
  rwa [hq]at this
theorem Kz:Fn Tryz.prog 28 [ku ak,ku ak,ku 1] [ku 0,ku 0,iN 60]:=by
 have hX:(ak:KP)≠0:=fun h=>by have:=kh;rw[h,aM.2 rfl]at this;omega
 have hr:ab (ak:KP) ak=0:=tw (q:=1) hX (one_mul _).symm;refine wH (JQ hX u6 aw (by rw[kh];omega) hr (oY hX u6 u6 aw aw (by rw[kh];omega))) ?_;rw[gd1 hX hr,Dr,kh];omega
noncomputable abbrev sq1:KP:=1+ak*ak
theorem NV:kl [kn 1,kn 0,kn 1]=ku sq1:=by
 rw[vQ (fun _=>zu aH)];show ku _=ku _;congr 1;have:ac [kn 1,kn 0,kn 1]=(1+ak*ak:KP):=Alg.P.ext fun i=>by
  rw[rR,cd,show(ak*ak:KP)=mon 1 1*mon 1 1 from rfl,dM,bV,mul_one,fO,fp]
  match i with
  | 0=>rw[if_neg aw,add_zero];rfl
  | 1=>rw[if_neg aw,add_zero];rfl
  | 2=>rw[if_pos rfl];exact(zero_add _).symm
  | i+3=>rw[if_neg aw,add_zero];rfl
 rw[this]
theorem Da (i:Nat):sq1.c i=if i=0\/i=2 then 1 else 0:=by
 rw[cd,show(ak*ak:KP)=mon 1 1*mon 1 1 from rfl,dM,bV,mul_one]
 match i with
 | 0=>rw[if_neg aw,add_zero];rfl
 | 1=>rw[if_neg aw,add_zero];rfl
 | 2=>rw[if_pos rfl];exact zero_add _
 | i+3=>rw[if_neg aw,add_zero];rfl
theorem i6:aa sq1=3:=kg (fun i hi=>by rw[Da,if_neg aw]) fun _=>by rw[Da,if_pos aw];exact one_ne
theorem xp:lc sq1=1:=by rw[lc,i6,Da,if_pos aw]
theorem JF:PW 0 sq1:=fun i=>by
 rw[Da];split
 ·exact i5 (z:=1) aH
 ·exact dz 0
noncomputable abbrev kR:KQ:=1+xK*xK
theorem FB1 (w:Nat):FB w 1:=(i5 (z:=1) (w:=0) aH).mono (Nat.zero_le w)
theorem ub:FB 4 kR:=((FB1 0).add (eE.mul eE)).mono aw
theorem vR:kR≠0:=fun h=>by
 have h1:(Alg.em (1+ak*ak):KQ)=Alg.em 0:=by
  rw[uw,oJ];exact h
 have h2:=congrArg (fun p=>p.c 0) (xA h1);rw[show(ak*ak:PQ)=mon 1 1*mon 1 1 from rfl,dM]at h2;exact absurd h2 aE
theorem N5:ab lX sq1=lX:=tz (q:=0) (by rw[zero_mul,zero_add]) (by rw[fB,i6];omega)
theorem N4:ab sq1 lX=an kR:=tz (q:=ak+an xK) (by
 rw[Er,bB,ci];exact ring [ak,an xK]) (by rw[fB];have:=fU kR;omega)
theorem sRes:Fn Tryz.prog 35 [ku lX,ku sq1] [iK (kz 1+xK*xK)]:=by
 have sl:aa lX=2:=fB _;have ll:lc lX=1:=BP _;have hq0:sq1≠0:=fun h=>by have:=i6;rw[h,aM.2 rfl]at this;omega
 have he:eu lX sq1=[(lX,sq1),(sq1,lX),(lX,an kR)]:=eu3 hq0 N5 (jO _) N4 (fg vR) (Alg.iJ vR);have sk:aa (an kR:KP)=1:=sY vR;have pw1:∀ n,Alg.pw (1:KQ) n=1:=fun n=>by
  induction n with
  | zero=>rfl
  | succ n ih=>simp only[Alg.pw,ih,mul_one]
 have o1:my lX sq1 1=1:=by
  rw[qC (x:=(lX,sq1)) (by rw[he];rfl)];simp only[xp,pw1,sgR,sl,i6];rw[if_neg aw];exact mul_one _
 have o2:my lX sq1 2=1:=by
  rw[qC (x:=(sq1,lX)) (by rw[he];rfl)];simp only[ll,pw1,sgR,sl,i6,o1];rw[if_neg aw];exact mul_one _
 have lk:lc (an kR:KP)=kR:=oH _;have pk:Alg.pw kR 1=kR:=by simp only[Alg.pw,one_mul,mul_one]
 have f1:FW (1:KQ):=FB1 1000;have fk:FW kR:=ub.mono aw;have h:=Mm (a:=lX) (b:=sq1) (m:=2) (z:=(lX,an kR)) (jO _) hq0 aw (by rw[i6];omega) (by rw[he];rfl) (by rw[he];rfl) fun k x hx=>by
  rw[he]at hx
  match k,hx with
  | 0,hx =>
   simp at hx;subst hx;exact⟨oY hq0 (nC eE) JF (by rw[sl,i6];omega) aw (by rw[i6];omega),by dsimp only;omega,by rw[i6];omega,by rw[xp];exact f1,f1,by rw[xp,pw1];exact f1,by rw[xp,pw1];exact(FB1 0).mul (FB1 1000) |>.mono aw,fun h=>absurd h (by rw[i6];omega)⟩
  | 1,hx =>
   simp at hx;subst hx;exact⟨oY (jO _) JF (nC eE) (by rw[sl,i6];omega) aw (by rw[sl];omega),by rw[i6];omega,by dsimp only;omega,by rw[ll];exact f1,by rw[o1];exact f1,by rw[ll,pw1];exact f1,by rw[ll,pw1,o1];exact(FB1 0).mul (FB1 1000) |>.mono aw,fun h=>absurd h (by rw[sl];omega)⟩
  | 2,hx =>
   simp at hx;subst hx;exact⟨oY (fg vR) (nC eE) (qc ub) (by rw[sl,sk];omega) aw (by rw[sk];omega),by dsimp only;omega,by rw[sk];omega,by rw[lk];exact fk,by rw[o2];exact f1,by
    rw[lk,Alg.iJ vR,sl,aM.2 rfl];simp only[Alg.pw,one_mul];exact(ub.mul ub).mono aw,by
    rw[lk,Alg.iJ vR,sl,aM.2 rfl,o2];simp only[Alg.pw,one_mul];exact(ub.mul ub).mono aw,fun _=>by
    rw[lk,sl,o2];show FW (Alg.pw kR 1)/\FW (1*Alg.pw kR 1);rw[pk,one_mul];exact⟨fk,fk⟩⟩
  | n+3,hx=>simp at hx
 rw[Fl,if_pos sk,o2,lk,sl]at h;rw[show Alg.pw kR (2-1)=kR from pk,one_mul]at h;exact h
theorem SqOf {p P D G Q1 Q2:KP} {m w wp wg wd:Nat} {out:List (KP×Nat)} (hp2:2<=aa p) (hs:aa p<=5) (hm:m<=1000) (wp0:PW wp p) (hwp:2*wp<=1000) (hP:mn p=P) (wP:PW w P) (hw:w<=990) (hD:der P=D) (wD0:PW wd D) (hG:ai P D=G)
  (cG:Fn Tryz.prog 24 [ku P,ku D] [ku (ai P D)]) (wG:PW wg G) (hwg:wg<=1000) (hG0:G≠0) (e1:P=Q1*G) (e2:D=Q2*G) (b1:wD w wg (aa P+1-aa G)<=1000) (b2:wD wd wg (aa D+1-aa G)<=1000) (hsG:aa G<=900)
  (hR:SqR m 1 Q1 Q2 out):Fn Tryz.prog 31 [ku p] [.c (.lst (out.map sqr))]:=by
 have sP:aa P=aa p:=by rw[<-hP,Dr]
 have sD:aa D<=aa P-1:=by rw[<-hD];exact Ch P
 have q1:=lH hG0 e1;have q2:=lH hG0 e2;subst hP hD hG;refine CO hp2 hm (sF wp0 hwp aw) (CS wP aw aw) cG (JO hG0 wP wG b1 hwg aw aw) (JO hG0 wD0 wG b2 hwg aw aw) ?_;rw[q1,q2];exact hR
theorem O5 {b:KP} {n w:Nat} (wb:PW w b) (hw:24*w+7<=1000) (hl:lc b=1) (hs:2<=aa b) (hs':aa b<=5):SqR 1 n b (der b) [(b,n)]:=by
 have hb0:b≠0:=fun h=>by rw[h,aM.2 rfl]at hs;omega
 have e0:der b-der b=0:=sub_self _;have eg:ai b (der b-der b)=b:=by rw[e0,lZ,pC hl]
 have wd:=Nb wb aw;have sd:=Ch b;have q1:qu b b=1:=lH hb0 (one_mul _).symm;have q2:qu 0 b=0:=lH hb0 (zero_mul _).symm;have w0:PW 0 (0:KP):=fun i=>dz 0;have s0:aa (0:KP)=0:=aM.2 rfl;have step:=SqR.step (m:=0) (n:=n) (b:=b) (c:=der b) (out:=[]) aw (CS wb aw aw) (AB wd wd aw aw aw) (by rw[e0];exact JR wb aw aw)
  (by rw[eg];exact AD hb0 wb wb aw aw aw) (by rw[eg,e0];exact AD hb0 w0 wb aw aw aw) (by rw[eg,e0,q1,q2];exact SqR.stop (by rw[mX];omega))
 rw[eg,if_pos aw]at step;exact step
theorem O4 {b c d g:KP} {m n w v u k:Nat} {out:List (KP×Nat)} (wb:PW w b) (wc:PW v c) (wd:PW u d) (wg:PW k g) (hw:w+10+v+1<=1000) (hs:2<=aa b) (hs':aa b<=3) (hsc:aa c<=3) (hd:c-der b=d) (hg:ai b d=g) (hsg:aa g=2) (hsd:aa d<=3) {q1 q2:KP}
  (cG:Fn Tryz.prog 24 [ku b,ku d] [ku (ai b d)]) (hb1:4*w+6*k+3<=1000) (hb2:4*u+6*k+3<=1000) (e1:b=q1*g) (e2:d=q2*g) (hR:SqR m (n+1) q1 q2 out):SqR (m+1) n b c ((g,n)::out):=by
 have hg0:g≠0:=fun h=>by rw[h,aM.2 rfl]at hsg;omega
 have h1:=lH hg0 e1;have h2:=lH hg0 e2;have sd:=Ch b;have step:=SqR.step (m:=m) (n:=n) (b:=b) (c:=c) (out:=out) aw (CS wb aw aw) (AB wc (Nb wb aw) aw aw aw) (by rw[hd];exact cG)
  (by rw[hd,hg];exact AD hg0 wb wg aw hb1 aw) (by rw[hd,hg];exact AD hg0 wd wg aw hb2 aw) (by rw[hd,hg,h1,h2];exact hR)
 rw[hd,hg,if_pos aw]at step;exact step
theorem MX (n:Nat):(ic (n:Int):KQ)=kn (n:Int):=by rw[Iw,DE]
theorem uh {n:Nat} (h:n≠0):(ic (n:Int):KQ)≠0:=by rw[MX];exact zu aw
theorem MY {n w:Nat} (h:n<=2 ^ w):FB w (ic (n:Int):KQ):=by rw[MX];exact i5 (by simpa using h)
noncomputable abbrev t4:KQ:=Alg.inv (ic 4)
noncomputable abbrev t9:KQ:=Alg.inv (ic 9)
theorem PH:FB 4 t9:=(MY (n:=9) aH).inv (uh (n:=9) aH)
theorem NS:t9*ic 9=1:=cn (uh (n:=9) aH)
section
variable {a b:KQ}
noncomputable abbrev LN (c:KQ):KP:=ak-an c
theorem rA (c:KQ):aa (LN c)=2:=fB c
theorem kX (c:KQ):LN c≠0:=jO c
theorem zj (c:KQ):lc (LN c)=1:=BP c
theorem tW (c:KQ):der (LN c)=1:=K9 c
theorem szm {p q:KP} (hp:p≠0) (hq:q≠0):aa (p*q)=aa p+aa q-1:=dy hp hq
theorem lcm1 {p q:KP} (hp:lc p=1) (hq:lc q=1):lc (p*q)=1:=by rw[gM,hp,hq,one_mul]
theorem vB (p:KP) {c:KQ} (hc:c≠0):aa (p*an c)=aa p:=by rw[mul_comm,bY hc]
theorem MT {p:KP} {c:KQ} (hc:c≠0) (hl:lc p=1):mn (p*an c)=p:=by rw[mul_comm,zd hc,pC hl]
theorem MM {p g q:KP} {c:KQ} (hc:c≠0) (hg:g≠0) (h:p=q*g):ab p (g*an c)=0:=by
 refine tw (q:=q*an (Alg.inv c)) (a7 hg (fg hc)) ?_;have e:(an c:KP)*an (Alg.inv c)=1:=by rw[<-bB,mul_inv hc,ci]
 have h2:q*an (Alg.inv c)*(g*an c)=q*g*(an c*an (Alg.inv c)):=ring [q,g,an c,an (Alg.inv c)];rw[h2,e,mul_one,h]
noncomputable abbrev k11 (a b:KQ):KQ := -(t4*(b-a)*(b-a))
noncomputable abbrev k21 (a b:KQ):KQ := -(t9*ic 2*(b-a)*(b-a))
theorem xt (h:a≠b):k21 a b≠0:=k_ne h (a7 (eA (uh (n:=9) aH)) (uh (n:=2) aH))
theorem Ok (ha:FB 8 a) (hb:FB 8 b):FB 39 (k21 a b):=(((PH.mul (MY (n:=2) (w:=1) aH)).mul (hb.sub ha)).mul (hb.sub ha)).neg.mono aw
theorem d21:der (LN a*LN a*LN b)=LN a*(LN b+LN b+LN a):=by
 rw[xD,xD,tW,tW];exact ring [LN a,LN b]
theorem re21:ab (LN a*LN a*LN b) (LN a*(LN b+LN b+LN a))=LN a*an (k21 a b):=by
 have h3:aa (LN b+LN b+LN a)=2:=mN a b (uh (n:=3) aH);have hn:LN b+LN b+LN a≠0:=fun h=>by rw[h,aM.2 rfl]at h3;omega
 have h9:=div9 NS (LN a) (LN b);rw[Ol]at h9;refine tz (q:=an t9*(LN a+LN a+LN b)) ?_ ?_
 ·have e1:LN a*LN a*LN b=LN a*(LN a*LN b):=mul_assoc _ _ _;rw[e1,h9];exact ring [LN a,LN b,an t9,an (k21 a b)]
 ·rw[szm (kX a) hn,h3,rA];have:=bf (LN a) (an (k21 a b));have:=fU (k21 a b);rw[rA]at *
  omega
theorem gd21 (h:a≠b):ai (LN a*LN a*LN b) (LN a*(LN b+LN b+LN a))=LN a:=by
 have h3:aa (LN b+LN b+LN a)=2:=mN a b (uh (n:=3) aH);have hn:LN b+LN b+LN a≠0:=fun h=>by rw[h,aM.2 rfl]at h3;omega
 rw[gd2 (a7 (kX a) hn) re21 (a7 (kX a) (fg (xt h))) (MM (xt h) (kX a) (mul_comm _ _)),MT (xt h) (zj a)]
theorem yY (ha:FB 8 a):Alg.PC 8 (LN a):=Alg.PC.lin ha
theorem HG (ha:FB 8 a) (hb:FB 8 b):Alg.PC 17 (LN a*LN b):=(yY ha).mul (yY hb) (k:=1) (by rw[rA];decide)
theorem HH (ha:FB 8 a) (hb:FB 8 b):Alg.PC 27 (LN a*LN a*LN b):=(HG ha ha).mul (yY hb) (k:=2) (by rw[szm (kX a) (kX a),rA];decide)
theorem Sq21 {c:KQ} (hab:a≠b) (ha:FB 8 a) (hb:FB 8 b) (hc0:c≠0) (hc:FB 8 c):Fn Tryz.prog 31 [ku (LN a*LN a*LN b*an c)] [.c (.lst ([(LN b,1),(LN a,2)].map sqr))]:=by
 have na:=kX a;have nb:=kX b;have naa:=a7 na na;have nP:=a7 naa nb;have sa:=rA a;have sb:=rA b;have sP:aa (LN a*LN a*LN b)=4:=by rw[szm naa nb,szm na na,sa,sb]
 have lP:lc (LN a*LN a*LN b)=1:=lcm1 (lcm1 (zj a) (zj a)) (zj b);have h3:aa (LN b+LN b+LN a)=2:=mN a b (uh (n:=3) aH);have n3:LN b+LN b+LN a≠0:=fun h=>by rw[h,aM.2 rfl]at h3;omega
 have sD:aa (LN a*(LN b+LN b+LN a))=3:=by rw[szm na n3,sa,h3]
 have nD:=a7 na n3;have wP:=PC.pw (HH ha hb);have wDD:PW 29 (LN a*(LN b+LN b+LN a)):=by
  have:=PC.pw ((HH ha hb).der (k:=2) (by rw[sP];decide));rwa [d21]at this
 have k0:=xt hab;have wr:PW 47 (LN a*an (k21 a b)):=(PC.pw (yY ha)).scale (Ok ha hb);have nr:=a7 na (fg k0);have sr:aa (LN a*an (k21 a b))=2:=by rw[vB _ k0,sa]
 have rr:ab (LN a*(LN b+LN b+LN a)) (LN a*an (k21 a b))=0:=MM k0 na (mul_comm _ _);have cG:=JP nD re21 nr rr wr aw aw (oY nD wP wDD aw aw aw) (oY nr wDD wr aw aw aw);have wa:=PC.pw (yY ha);have wb:=PC.pw (yY hb);have wab:=PC.pw (HG ha hb);have wfg:PW 17 (LN a+LN b):=by
  have:=wa.add wb;exact this
 have dab:der (LN a*LN b)=LN a+LN b:=by
  rw[xD,tW,tW];exact ring [LN a,LN b]
 have wc:PW 35 (LN b+LN b+LN a):=((wb.add wb).add wa).mono aw;refine SqOf (P:=LN a*LN a*LN b) (D:=LN a*(LN b+LN b+LN a)) (G:=LN a) (Q1:=LN a*LN b) (Q2:=LN b+LN b+LN a) (m:=2) (wp:=35) (w:=27) (wg:=8) (wd:=29) ?_ ?_ aw (wP.scale hc) aw (MT hc0 lP) wP aw d21 wDD (gd21 hab) cG wa aw na (ring [LN a,LN b]) (mul_comm _ _) ?_ ?_ aw ?_
 ·rw[vB _ hc0,sP];omega
 ·rw[vB _ hc0,sP];omega
 ·rw[sP,sa];simp only[wD];omega
 ·rw[sD,sa];simp only[wD];omega
 ·have e0:LN b+LN b+LN a-der (LN a*LN b)=LN b:=by
   rw[dab];exact ring [LN a,LN b]
  have rg:ab (LN a*LN b) (LN b)=0:=tw nb rfl;have eg:ai (LN a*LN b) (LN b)=LN b:=by rw[gd1 nb rg,Od]
  have last:SqR 1 2 (LN a) 1 [(LN a,2)]:=by
   have:=O5 (n:=2) wa aw (zj a) aw aw;rwa [tW]at this
  have sab:aa (LN a*LN b)=3:=by rw[szm na nb,sa,sb]
  exact O4 (u:=8) (k:=8) wab wc wb wb aw aw aw aw e0 eg sb aw (JQ nb wb aw aw rg (oY nb wab wb aw aw aw)) aw aw rfl (one_mul _).symm last
end
theorem Qi:kl [kn 1,xK]=ku (an 1+an xK*ak):=by rw[vQ (fun _=>fQ),pl2,fp]
theorem ij {p:KP} {w:Nat} (h:PW w p) (hw:w<=1000) (hs:aa p<=1000):Fn Tryz.prog 15 [ku p,ku p] [iB true]:=by
 have:=O9 h h hw hw hs;rwa [aF rfl]at this
theorem Ia (a:KQ):kn (-1)*a = -a:=by
 rw[show kn (-1) = -(1:KQ)from(Ip 1).trans (by rw[fp]),neg_mul,one_mul]
theorem Is:Alg.inv (xK*xK)=yK*yK:=ud _ _
theorem Qv:kl [kn (-1)*Alg.inv (xK*xK),kn 1*yK]=ku dQ:=by
 rw[Ia,Is,fp,one_mul,vQ (fun _=>yk),pl2]
theorem Iq {c:KQ} (h:c≠0):kl [c]=ku (an c):=by rw[vQ (l:=[c]) (fun _=>h),pl1]
theorem Ke:xK≠kn (-1):=fun h=>by
 have h2:=congrArg aa (xA h);rw[show(ak:PQ)=mon 1 1 from rfl,mM 1 aH,jo (R:=Rat) aH]at h2;omega
theorem tV:FB 8 (kn (-1)):=i5 aH
theorem sJ:FB 8 xK:=eE.mono aw
theorem Oj:kl [kn 1*Alg.inv (xK*xK)]=ku (an (yK*yK)):=by rw[Is,fp,one_mul,Iq (a7 yk yk)]
theorem Qh:kl [kn 1*yK]=ku (an yK):=by rw[fp,one_mul,Iq yk]
theorem Oi:kl [kn (-1)*yK]=ku (-an yK):=by
 have h : -yK≠0:=fun e=>yk (by have:=congrArg (fun x => -x) e;rwa [neg_neg,gL]at this);rw[Ia,Iq h,lu]
set_option maxHeartbeats 4000000 in
theorem Ff:Fn Tryz.prog 11 [] [iB true]:=by
 have m0:=oX 0 aH;have m1:=oX 1 aH;have mm:=oX (-1) aH;have fx:FW xK:=eE.mono aw;have f1:FW (kn 1):=FB1 1000;have fm:FW (kn (-1)):=tV.mono aw;have fxx:FW (xK*xK):=(eE.mul eE).mono aw;have xx0:xK*xK≠0:=a7 fQ fQ;have fy:FW yK:=mB.mono aw;have hneg:=Ao fx;have hsq:=uT fx fx fxx;have o1:=qg fm fxx xx0 ((tV.mul ((eE.mul eE).inv xx0)).mono aw);have o2:=qg f1 fx fQ (((FB1 0).mul mB).mono aw);have o3:=qg f1 fxx xx0 (((FB1 0).mul ((eE.mul eE).inv xx0)).mono aw);have o4:=qg fm fx fQ ((tV.mul mB).mono aw);have hlx:=Ar eE aw;have hlm:=Ar tV aw;have wx:=PC.pw (yY sJ);have wxx:=PC.pw (HG sJ sJ);have wm:=PC.pw (yY tV);have sx:=rA xK;have sm:=rA (kn (-1));have sxx:aa (LN xK*LN xK)=3:=by rw[szm (kX _) (kX _),sx]
 have s21:aa (LN xK*LN xK*LN (kn (-1)))=4:=by rw[szm (a7 (kX _) (kX _)) (kX _),sxx,sm]
 have g1:=rM wx wx (by rw[sx];omega) aw aw aw aw;have g2:=rM wxx wm (by rw[sxx];omega) aw aw aw aw;have g3:=Ml (PC.pw (HH sJ tV)) sJ aw aw;have g4:=Sq21 (c:=xK) Ke sJ tV fQ sJ;have wy:PW 1 (an yK:KP):=qc mB;have wyn:PW 1 (-an yK:KP):=fun i=>(wy i).neg;have wR:PW 2 (an (yK*yK):KP):=qc (mB.mul mB);have wQ:PW 4 dQ:=(qc (mB.mul mB).neg).add (JG mB);have sy:=fU yK;have syn:aa (-an yK:KP)<=1:=by rw[kC];exact sy
 have sR:=fU (yK*yK);have sQ:aa dQ<=2:=dc (ax (fU _) aw) (by have:=bf (an yK:KP) ak;rw[kh]at this;omega);have d2:decide (((2:Nat):Int)=2)=true:=rfl;have d1:decide (((1:Nat):Int)=1)=true:=rfl;have d0:decide (((0:Nat):Int)=0)=true:=rfl;have s3:=uR [0,1,xK] [0,1,xK] au (fun f hf=>by
  simp at hf;rcases hf with rfl|rfl|rfl
  ·exact dz _
  ·exact FB1 _
  ·exact fx) (fun f hf=>by
  simp at hf;rcases hf with rfl|rfl|rfl
  ·exact dz _
  ·exact FB1 _
  ·exact fx)
 rw[aF rfl]at s3;have s3':Fn Tryz.prog 15 [fl cs3,kl [kn 0,kn 1,xK]] [iB true]:=by rw[OH,fO,fp];exact s3
 have fs:FW (xK*xK+kn 1):=((eE.mul eE).add (FB1 0)).mono aw;have hadd:=u3 fxx f1 fs;have hsame:=Gl (f:=kz 1+xK*xK) (g:=xK*xK+kn 1) (ub.mono aw) fs;rw[aF (add_comm _ _)]at hsame;have hTrim:=j6 [kn 0] au;have et:dF [kn 0]=[]:=by
  rw[f7,pl1,fO,cu,pV]
 rw[et]at hTrim;have hGcd:=JR (a:=0) (w:=0) (fun i=>dz 0) aw (by rw[aM.2 rfl];omega);rw[lZ,jq,fu]at hGcd;have hz:=qS (kn 0);rw[aF fO]at hz;refine aJ (fn:=Tryz.f11) ?_;simp -dsimp only[go_sem];refine aK m1 ?_;simp -dsimp only[go_sem];refine ap 4 [] false true ?_;simp -dsimp only[go_sem];refine aK m0 ?_;simp -dsimp only[go_sem];refine aK (iC 0 aw) ?_;simp -dsimp only[go_sem];refine aK (iC 1 aw) ?_;simp -dsimp only[go_sem];refine aK (iC 1 aw) ?_;simp -dsimp only[go_sem];refine ao PN rfl ?_;simp -dsimp only[go_sem];refine ao MK rfl ?_;simp -dsimp only[go_sem];refine aK (iC 1 aw) ?_;simp -dsimp only[go_sem];refine ao sML rfl ?_;simp -dsimp only[go_sem];refine ao PP rfl ?_;simp -dsimp only[go_sem];refine ap 14 [] false true ?_;simp -dsimp only[go_sem];refine aO (args':=[ku ak,ku ak]) (by rw[<-Im];rfl) NY ?_;simp -dsimp only[go_sem];refine aK ln ?_;simp -dsimp only[go_sem];refine aO (args':=[ku (ak*ak),ku (an 1+an xK*ak)]) (by rw[<-Qi];rfl) sDiv ?_;simp -dsimp only[go_sem];refine aO (args':=[ku ak,ku 0]) (by rw[<-Im,fu];rfl) (x7 ak) ?_;simp -dsimp only[go_sem];refine ap 15 [] false true ?_;simp -dsimp only[go_sem];refine aK ln ?_;simp -dsimp only[go_sem];refine ao hneg rfl ?_;simp -dsimp only[go_sem];refine aO (args':=[ku ak,ku lX,ku 1]) (by rw[<-Im,<-Og,<-MV];rfl) KA ?_;simp -dsimp only[go_sem];refine aO (args':=[ku ak,ku ak,ku 1]) (by rw[<-Im,<-MV];rfl) Kz ?_;simp -dsimp only[go_sem];refine aK ln ?_;simp -dsimp only[go_sem];refine ao hlx rfl ?_;simp -dsimp only[go_sem];refine aK ln ?_;simp -dsimp only[go_sem];refine ao hlx rfl ?_;simp -dsimp only[go_sem];refine ao g1 rfl ?_;simp -dsimp only[go_sem];refine aK mm ?_;simp -dsimp only[go_sem];refine ao hlm rfl ?_;simp -dsimp only[go_sem];refine ao g2 rfl ?_;simp -dsimp only[go_sem];refine aK ln ?_;simp -dsimp only[go_sem];refine ao g3 rfl ?_;simp -dsimp only[go_sem];refine ao g4 rfl ?_;simp -dsimp only[go_sem];refine aK ln ?_;simp -dsimp only[go_sem];refine aK ln ?_;simp -dsimp only[go_sem];refine ao hsq rfl ?_;simp -dsimp only[go_sem];refine ap 26 [] false true ?_;simp -dsimp only[go_sem];refine aK mm ?_;simp -dsimp only[go_sem];refine ao o1 rfl ?_;simp -dsimp only[go_sem];refine aK ln ?_;simp -dsimp only[go_sem];refine ao o2 rfl ?_;simp -dsimp only[go_sem];refine aO (args':=[ku dQ,ku dQ]) (by rw[<-Qv];rfl) (ij wQ aw aw) ?_;simp -dsimp only[go_sem];refine ao o3 rfl ?_;simp -dsimp only[go_sem];refine aO (args':=[ku (an (yK*yK)),ku (an (yK*yK))]) (by rw[<-Oj];rfl) (ij wR aw aw) ?_;simp -dsimp only[go_sem];refine ap 23 [] false true ?_;simp -dsimp only[go_sem];refine aK ln ?_;simp -dsimp only[go_sem];refine ao o2 rfl ?_;simp -dsimp only[go_sem];refine aO (args':=[ku (an yK),ku (an yK)]) (by rw[<-Qh];rfl) (ij wy aw aw) ?_;simp -dsimp only[go_sem];refine aK mm ?_;simp -dsimp only[go_sem];refine aK ln ?_;simp -dsimp only[go_sem];refine ao o4 rfl ?_;simp -dsimp only[go_sem];refine aO (args':=[ku (-an yK),ku (-an yK)]) (by rw[<-Oi];rfl) (ij wyn aw aw) ?_;simp -dsimp only[go_sem];refine ap 36 [] false true ?_;simp -dsimp only[go_sem];simp -dsimp only[go_sem,d2,d1,Int.reduceToNat,Int.reduceLE,aC,sqr];refine aK mm ?_;simp -dsimp only[go_sem];refine ao hlm rfl ?_;simp -dsimp only[go_sem];refine ao (ij wm aw aw) rfl ?_;simp -dsimp only[go_sem,Int.reduceToNat,Int.reduceLE,aC,sqr];refine aK ln ?_;simp -dsimp only[go_sem];refine ao hlx rfl ?_;simp -dsimp only[go_sem];refine ao (ij wx aw aw) rfl ?_;simp -dsimp only[go_sem];refine ap 59 [] false true ?_;simp -dsimp only[go_sem];refine aK m0 ?_;simp -dsimp only[go_sem];refine aK ln ?_;simp -dsimp only[go_sem];refine ao s3' rfl ?_;simp -dsimp only[go_sem];refine aK ln ?_;simp -dsimp only[go_sem];refine ao hlx rfl ?_;simp -dsimp only[go_sem];refine aK m0 ?_;simp -dsimp only[go_sem];refine aO (args':=[ku lX,ku sq1]) (by rw[<-NV];rfl) sRes ?_;simp -dsimp only[go_sem];refine ao hadd rfl ?_;simp -dsimp only[go_sem];refine ao hsame rfl ?_;simp -dsimp only[go_sem];refine ao sTo rfl ?_;simp -dsimp only[go_sem];refine aK (iC 0 aw) ?_;simp -dsimp only[go_sem];refine aK (iC 1 aw) ?_;simp -dsimp only[go_sem];refine aK (iC 1 aw) ?_;simp -dsimp only[go_sem];refine ao PN rfl ?_;simp -dsimp only[go_sem];refine ao MK rfl ?_;simp -dsimp only[go_sem];refine aK (iC 1 aw) ?_;simp -dsimp only[go_sem];refine ao sML rfl ?_;simp -dsimp only[go_sem];refine ao PM rfl ?_;simp -dsimp only[go_sem];refine ao NX rfl ?_;simp -dsimp only[go_sem];refine aK m0 ?_;simp -dsimp only[go_sem];refine ao hTrim rfl ?_;simp -dsimp only[go_sem,d0];refine ao hGcd rfl ?_;simp -dsimp only[go_sem,d0];refine aO (args':=[ku 0,ku ak]) (by rw[<-Im,fu];rfl) (JM (.inl rfl)) ?_;simp -dsimp only[go_sem];refine ao hz rfl ?_;simp -dsimp only[go_sem]
theorem Kv (x y:KP):aa (x*y)<=aa x+aa y-1:=bf x y
theorem re1 {p q:KP} (h:aa q=1):ab p q=0:=by
 have e:=d7 (Nat.le_of_eq h);have h0:q.c 0≠0:=fun e0=>by rw[e0,cu]at e;rw[e,aM.2 rfl]at h;omega
 rw[e];exact Alg.iJ h0
theorem uE {r:KP} (h:aa r=1):∃ c,c≠0/\r=an c:=by
 have e:=d7 (Nat.le_of_eq h);exact⟨_,fun e0=>by rw[e0,cu]at e;rw[e,aM.2 rfl]at h;omega,e⟩
theorem ML {p q:KP} (hq:q≠0) (hp:PW 8 p) (hq':PW 8 q) (sp:aa p<=2) (sq:aa q<=2):PW 83 (ab p q):=by
 have:=aR hq;exact(Na hq hp hq').2.1.mono (ax (jj 8 8 (by omega:_<=2)) aH)
section
variable {p q:KP} (hp:PW 8 p) (hq:PW 8 q) (sp:aa p<=2) (sq:aa q<=2)
include hp hq sp sq
theorem Nk:Fn Tryz.prog 24 [ku p,ku q] [ku (ai p q)]:=by
 by_cases h0:q=0
 ·rw[h0];exact JR hp aw aw
 have h1:=aR h0;have wr:=ML h0 hp hq sp sq;have c1:=oY h0 hp hq aw aw aw;have sr:=(qure (a:=p) h0).2;by_cases hr:ab p q=0
 ·exact JQ h0 hq aw aw hr c1
 ·have h2:=aR hr;exact JP h0 rfl hr (re1 aw) wr aw aw c1 (oY hr hq wr aw aw aw)
theorem Pa:Fn Tryz.prog 25 [ku p,ku q] [ku (ai p q)]:=by
 by_cases h0:q=0
 ·subst h0;exact uV (w:=fun _=>8) 0 rfl (fun i hi=>absurd hi aw) (fun i hi=>absurd hi aw) (fun i hi=>absurd hi aw) ⟨hp,aH,by show aa p<=1000;omega⟩
 have h1:=aR h0;have wr:=ML h0 hp hq sp sq;have sr:=(qure (a:=p) h0).2;have c1:=Jv h0 hp hq (by
  refine ax (Nat.mul_le_mul (by omega:aa q+2<=4) (Nat.add_le_add_right (Nat.add_le_add_right (wN 8 8 (by omega:aa p+1-aa q<=2)) _) _)) aH) aw aw
 by_cases hr:ab p q=0
 ·refine uV (w:=fun i=>if i=0 then 83 else 8) 1 (by show mn (ab p q)=0;rw[hr,jq]) (fun i hi=>?_) (fun i hi=>?_) (fun i hi=>?_) ⟨hq,aH,by show aa q<=1000;omega⟩
  ·obtain rfl:i=0:=aw;exact h0
  ·obtain rfl:i=0:=aw;exact c1
  ·obtain rfl:i=0:=aw;exact⟨wr,aH,by show aa (ab p q)<=1000;omega⟩
 ·have h2:=aR hr;obtain⟨c,hc,e⟩:=uE (r:=ab p q) aw;have em:mn (ab p q)=1:=by rw[e,P9 hc]
  have e1:gP p q 1=(q,1):=by show(q,mn (ab p q))=_;rw[em]
  have rq1:ab q 1=0:=re1 mX;have e2:gP p q 2=(1,0):=by
   show((gP p q 1).2,mn (ab (gP p q 1).1 (gP p q 1).2))=_;rw[e1];show((1:KP),mn (ab q 1))=_;rw[rq1,jq]
  have c2:=Jv y4 hq CN (by
   rw[mX];refine ax (Nat.mul_le_mul_left _ (Nat.add_le_add_right (Nat.add_le_add_right (wN 8 0 (by omega:aa q+1-1<=2)) _) _)) aH) aw (by rw[mX];omega)
  refine uV (w:=fun i=>if i=0 then 83 else 0) 2 (by rw[e2]) (fun i hi=>?_) (fun i hi=>?_) (fun i hi=>?_) (by rw[e2];exact⟨CN,aH,by show aa (1:KP)<=1000;rw[mX];omega⟩)
  ·obtain rfl|rfl:i=0\/i=1:=aw
   ·exact h0
   ·rw[e1];exact y4
  ·obtain rfl|rfl:i=0\/i=1:=aw
   ·exact c1
   ·rw[e1];exact c2
  ·obtain rfl|rfl:i=0\/i=1:=aw
   ·exact⟨wr,aH,by show aa (ab p q)<=1000;omega⟩
   ·rw[e1];show PW 0 (ab q 1)/\_;rw[rq1,aM.2 rfl];exact⟨fun i=>dz _,aH,aw⟩
end
end Go.AM
