/- Lemmas, part 21 of 23. No condition. -/
import Derived.Test.YtcmfkhicjhliaaaGreatPZ619
set_option maxRecDepth 65536
set_option linter.unusedSimpArgs false
set_option linter.unusedVariables false
set_option linter.unusedSectionVars false
namespace Go.AM
open Alg
open Go.Proofs
open Classical
structure gM where
 N:List T5
 D:List T5
def gM.row (x:gM):List C:=[.lst (x.N.map T5.row),.lst (x.D.map T5.row)]
def gM.ok (x:gM):Prop:=(x.N.length<=9223372036854775807/\x.D.length<=9223372036854775807)/\(∀ t∈x.N,t.ok)/\∀ t∈x.D,t.ok
noncomputable def gM.k (x:gM) (n:Nat):KQ:=kw x.N x.D n
abbrev rl (l:List gM):IV := .c (.lst (l.map gM.row))
noncomputable def mdR (l:List gM) (i:Nat):List KQ:=(l.take i).map fun x=>x.k 2
theorem Ih {l:List gM} {i:Nat} (h:i<l.length):mdR l (i+1)=mdR l i++[l[i].k 2]:=by
 unfold mdR;rw[aq h,List.map_append];rfl
theorem Lb {l:List gM} {i:Nat} (h:i<=l.length):(mdR l i).length=i:=by simp[mdR];omega
noncomputable def vU (l:List gM) (n:Nat):KP:=ac (mdR l n)
theorem Lc {l:List gM} (n:Nat) (h:∀ x∈l,x.ok):PW 8 (vU l n):=fun i=>by
 rw[vU,si,List.getD_eq_getElem?_getD];by_cases hi:i<(mdR l n).length
 ·rw[aD hi];have hm:=List.getElem_mem hi;generalize (mdR l n)[i]=f at hm;obtain⟨x,hx,rfl⟩:=List.mem_map.1 hm;have hk:=h x (List.mem_of_mem_take hx);exact HG aw hk.2.1 hk.2.2
 ·rw[List.getElem?_eq_none aw];exact dX _
theorem Ij (l:List gM) (n:Nat):aa (vU l n)<=n:=ax (MW _) (by simp[mdR];omega)
theorem Gs (l:List gM) (n:Nat) (hn:n<=3) (hl:l.length<=9223372036854775807) (h:∀ x∈l,x.ok):Fn Tryz.prog 13 [rl l,iN n] [ku (vU l n)]:=by
 have htr:dE (mdR l n)=aj (vU l n):=gc _;have hln:(mdR l n).length<=3:=by simp[mdR];omega
 refine aJ (fn:=Tryz.f13) ?_;simp -dsimp only[go_sem];refine cj 5 7 2 (rs:=[]) rfl au ?_;refine br [(5,6),(8,26)] [] [(7,7),(26,26)] (fun m τ β ε=>∃ i:Nat,m=n-i/\i<=n/\i<=l.length/\τ 6 = .i (iN i)/\Own 2 ((mdR l i).map kr) 5 7 τ ε)
  (fun e τ β ε=>e = .exit 0/\Own 2 ((mdR l n).map kr) 5 7 τ ε) n ?_ ?_ ?_
 ·exact⟨0,aw,aw,aw,rfl,Own.mk (g:=1) (mm:=false) aw rfl rfl rfl⟩
 ·rintro m τ β ε π hK hKB hKE ⟨i,hm,hi,hil,h6,g,mm,hg,h5,h7⟩;have hlen:=Lb hil;rw[az,hlen]at h5;have k0:τ 0 = .i (rl l):=(hK 0 rfl).trans rfl;have k1:τ 1 = .i (iN n):=(hK 1 rfl).trans rfl;by_cases hA:i<l.length
  ·have dA:decide ((i:Int)<(l.length:Int))=true:=aF aw;have gl:l[i]?=some l[i]:=by simp[hA]
   by_cases hB:i<n
   ·have dB:decide ((i:Int)<(n:Int))=true:=aF aw;have ho:=h _ (List.getElem_mem hA);have mk:=ou l[i].N l[i].D 2 aw ho.1.1 ho.1.2 ho.2.1 ho.2.2;simp -dsimp only[go_sem,h6,k0,k1,dA,dB,az];refine aQ gl ?_;simp -dsimp only[go_sem,gM.row,h6,k0,k1,h5];refine ao mk rfl ?_;simp -dsimp only[go_sem,h5,h7,hg,h6,az,hlen]
    repeat(refine And.intro aw ?_)
    refine bc (n-(i+1)) 5 26 7 aw rfl rfl aw aH ⟨(aA hK),hKB,(aA hKE),i+1,rfl,aw,aw,rfl,?_⟩;exact Own.mk2 (Nat.succ_pos _) (by simp -dsimp only[go_sem];rfl) (by simp -dsimp only[go_sem];rfl) (by simp[hlen]) (by rw[Ih hA,List.map_append];rfl)
   ·have dB:decide ((i:Int)<(n:Int))=false:=aG aw;obtain rfl:i=n:=aw;simp -dsimp only[go_sem,h6,k0,k1,dA,dB,az];exact⟨(aA hK),hKB,hKE,Own.mk hg h5 (by rw[az,hlen]) h7⟩
  ·have dA:decide ((i:Int)<(l.length:Int))=false:=aG aw;have et:mdR l n=mdR l i:=by unfold mdR;rw[List.take_of_length_le aw,List.take_of_length_le aw]
   simp -dsimp only[go_sem,h6,k0,k1,dA,az];rw[et];exact⟨(aA hK),hKB,hKE,Own.mk hg h5 (by rw[az,hlen]) h7⟩
 ·rintro e τ β ε π hK hKB hKE ⟨rfl,g,mm,hg,h5,h7⟩;refine⟨_,bA.freeze _ 7,?_⟩;simp -dsimp only[go_sem,h5,h7,hg];refine aP (args':=[kl (mdR l n)]) rfl (j7 _ aw) ?_;simp -dsimp only[go_sem];rw[htr]
theorem pm (n:Int) (h : -9223372036854775808<=n/\n<9223372036854775808):Fn Tryz.prog 30 [iN n] [iK (kn n)]:=by
 refine aJ (fn:=Tryz.f30) ?_;simp -dsimp only[go_sem];refine aK (fa n h) ?_;simp -dsimp only[go_sem]
theorem lJ:Fn Tryz.prog 59 [] [iK (Alg.em ak)]:=by
 refine aJ (fn:=Tryz.f59) ?_;simp -dsimp only[go_sem];refine aK JB ?_;simp -dsimp only[go_sem]
theorem qx {f g:KQ} (hf:FW f) (hg:FW g) (hg0:g≠0) (h:FW (f*Alg.inv g)):Fn Tryz.prog 60 [iK f,iK g] [iK (f*Alg.inv g)]:=by
 refine aJ (fn:=Tryz.f60) ?_;simp -dsimp only[go_sem];refine ao (rp hf hg hg0 h) rfl ?_;simp -dsimp only[go_sem]
abbrev OkL (l:List gM):Prop:=l.length<=9223372036854775807/\∀ x∈l,x.ok
end Go.AM
namespace Go.AM
open Go.Proofs
open Classical
abbrev one1:List Tm:=[(e0,1)]
def Tok (t:Tm):Prop:=cZ t.1/\t.1.lt 1099511627776/\t.2≠0/\QB 4294967296 t.2
theorem OQ (e:Ex):e0.add e=e:=by simp[e0,Ex.add]
theorem Gb (e:Ex):cr e e=0:=(jG e e).2 rfl
theorem FJ {m:Tm} (h:Tok m):FK one1 [m]=[m]:=by
 have e1:sumM one1 [m] []=[m]:=by
  simp only[sumM,rowM,List.foldl_cons,List.foldl_nil,addT,OQ];rw[show(1:Rat)*m.2=m.2 from Rat.one_mul _]
 rw[FK,e1,vw];have e2:keep m=true:=by
  unfold keep;rw[aF h.1,aF h.2.2.1];rfl
 simp only[List.filter_cons,e2,if_true,List.filter_nil,Fh,pY]
theorem Fe (m:Tm) (R:List Tm):Ff (m::R) [m]=R:=by
 rw[Ff,jA _ aH,List.map_cons,List.map_nil,jJ];simp only[Gb];rw[if_neg aH,if_neg aH,if_pos (by show m.2+m.2 * -1=0;rw[Rat.mul_neg,Rat.mul_one];exact Rat.add_neg_cancel _),jI]
theorem Do (q:Rat):q/1=q:=by rw[Rat.div_def,show(1:Rat)⁻¹=1 by decide +kernel];exact Rat.mul_one q
theorem AQ (N:List Tm) (hl:N.length<=1048576) (h:∀ t∈N,Tok t):Fn Tryz.prog 152 [iM N,iM one1] [iM N,iB true]:=by
 refine aJ (fn:=Tryz.f152) ?_;have c1:one1[0]?=some (e0,1):=rfl;have e1:decide (((1:Nat):Int)=0)=false:=rfl;simp -dsimp only[go_sem,e1,az];refine cj 6 6 8 (rs:=[]) rfl au ?_;refine br [(0,0),(4,8),(12,59)] [(7,7)] [(53,53),(6,6)] (fun n τ β ε=>∃ i:Nat,n=N.length-i/\i<=N.length/\τ 0 = .i (iM (N.drop i))/\Own 8 ((N.take i).map eT) 6 6 τ ε)
  (fun e τ β ε=>e = .exit 0/\Own 8 (N.map eT) 6 6 τ ε) N.length ?_ ?_ ?_
 ·exact⟨0,aw,aw,rfl,Own.mk (g:=1) (mm:=false) aw rfl rfl rfl⟩
 ·rintro n τ β ε π hK hKB hKE ⟨i,hn,hi,h0,g,mm,hg,h6,hrow⟩;have hlen:(N.take i).length=i:=by simp;omega
  rw[az,hlen]at h6;have k1:τ 1 = .i (iM one1):=(hK 1 rfl).trans rfl;by_cases hlt:i<N.length
  ·obtain⟨m,hmi⟩:∃ m,N[i]=m:=⟨_,rfl⟩;obtain⟨R,eR⟩:∃ R,N.drop (i+1)=R:=⟨_,rfl⟩;have hdr:N.drop i=N[i]::N.drop (i+1):=List.drop_eq_getElem_cons hlt;have hm:=h _ (List.getElem_mem hlt);have htk:N.take (i+1)=N.take i++[N[i]]:=aq hlt;have hll:(N.drop (i+1)).length<=1048576:=by simp;omega
   rw[hmi,eR]at hdr;rw[hmi]at hm htk;rw[eR]at hll;have hRq:∀ t∈m::R,QB 8589934592 t.2:=fun t ht=>by
    rw[<-hdr]at ht;exact(h t (List.mem_of_mem_drop ht)).2.2.2.mono' aw
   rw[hdr]at h0;have cR:(m::R)[0]?=some m:=rfl;have hA:(0:Int)<((R.length+1:Nat):Int):=aw;have lR:(m::R).length=R.length+1:=rfl;obtain⟨t1,t2,t3,t4⟩:=hm;have eN:decide (cZ m.1)=true:=aF t1;unfold cZ at t1;have t2':=t2;unfold Ex.lt at t2';simp -dsimp only[go_sem,h0,hA,Int.reduceToNat,Int.reduceLE,aC];refine aQ cR ?_;simp -dsimp only[go_sem,h0,hA,h6,hrow];refine br [(8,8),(18,34)] [(7,7)] [] (fun n τ' β' ε'=>∃ i:Nat,n=4-i/\i<=4/\τ' 18 = .i (iN i)/\β' 7=⟨(β 7).gen+1,eT m⟩)
    (fun e τ' β' ε'=>e = .exit 2/\β' 7=⟨(β 7).gen+1,eT m⟩) 4 ?_ ?_ ?_
   ·exact⟨0,aw,aw,rfl,rfl⟩
   ·rintro n2 τ2 β2 ε2 π2 hK2 hKB2 hKE2 ⟨i,hn2,hi,h18,b7⟩;have q7:τ2 7 = .bp 7 ((β 7).gen+1) 0:=(hK2 7 rfl).trans rfl;have q1:τ2 1 = .i (iM one1):=(hK2 1 rfl).trans k1;obtain rfl|rfl|rfl|rfl|rfl:i=4\/i=0\/i=1\/i=2\/i=3:=aw
    ·have h18':τ2 18 = .i (iN 4):=h18;simp -dsimp only[go_sem,h18',Int.reduceLT,decide_false];exact⟨(aA hK2),hKB2,hKE2,b7⟩
    ·have h18':τ2 18 = .i (iN 0):=h18;simp -dsimp only[go_sem,h18',Int.reduceLT,decide_true];refine ap 13 [] false true ?_;simp -dsimp only[go_sem,h18',q1,q7,b7,Int.reduceToNat,Int.reduceLE,aC,Int.reduceAdd];refine aQ c1 ?_;simp -dsimp only[go_sem,h18',q1,q7,b7,Int.reduceToNat,Int.reduceLE,aC,Int.reduceAdd,e0,Int.sub_zero]
     repeat(refine And.intro aw ?_)
     refine again (4-1) aw ⟨(aA hK2),(aA hKB2),hKE2,1,rfl,aw,rfl,?_⟩;simp -dsimp only[go_sem]
    ·have h18':τ2 18 = .i (iN 1):=h18;simp -dsimp only[go_sem,h18',Int.reduceLT,decide_true];refine ap 13 [] false true ?_;simp -dsimp only[go_sem,h18',q1,q7,b7,Int.reduceToNat,Int.reduceLE,aC,Int.reduceAdd];refine aQ c1 ?_;simp -dsimp only[go_sem,h18',q1,q7,b7,Int.reduceToNat,Int.reduceLE,aC,Int.reduceAdd,e0,Int.sub_zero]
     repeat(refine And.intro aw ?_)
     refine again (4-2) aw ⟨(aA hK2),(aA hKB2),hKE2,2,rfl,aw,rfl,?_⟩;simp -dsimp only[go_sem]
    ·have h18':τ2 18 = .i (iN 2):=h18;simp -dsimp only[go_sem,h18',Int.reduceLT,decide_true];refine ap 13 [] false true ?_;simp -dsimp only[go_sem,h18',q1,q7,b7,Int.reduceToNat,Int.reduceLE,aC,Int.reduceAdd];refine aQ c1 ?_;simp -dsimp only[go_sem,h18',q1,q7,b7,Int.reduceToNat,Int.reduceLE,aC,Int.reduceAdd,e0,Int.sub_zero]
     repeat(refine And.intro aw ?_)
     refine again (4-3) aw ⟨(aA hK2),(aA hKB2),hKE2,3,rfl,aw,rfl,?_⟩;simp -dsimp only[go_sem]
    ·have h18':τ2 18 = .i (iN 3):=h18;simp -dsimp only[go_sem,h18',Int.reduceLT,decide_true];refine ap 13 [] false true ?_;simp -dsimp only[go_sem,h18',q1,q7,b7,Int.reduceToNat,Int.reduceLE,aC,Int.reduceAdd];refine aQ c1 ?_;simp -dsimp only[go_sem,h18',q1,q7,b7,Int.reduceToNat,Int.reduceLE,aC,Int.reduceAdd,e0,Int.sub_zero]
     repeat(refine And.intro aw ?_)
     refine again (4-4) aw ⟨(aA hK2),(aA hKB2),hKE2,4,rfl,aw,rfl,?_⟩;simp -dsimp only[go_sem]
   ·rintro e τ2 β2 ε2 π2 hK2 hKB2 hKE2 ⟨rfl,b7⟩;refine⟨_,bA.refl _,?_⟩;have r7:τ2 7 = .bp 7 ((β 7).gen+1) 0:=(hK2 7 rfl).trans rfl;have r1:τ2 1 = .i (iM one1):=(hK2 1 rfl).trans k1;have r0:τ2 0 = .i (iM (m::R)):=(hK2 0 rfl).trans h0;have r6:τ2 6 = .sl 6 g i:=(hK2 6 rfl).trans h6;have rr:ε2 6=⟨g,8,(N.take i).map eT,mm,true⟩:=(hKE2 6 rfl).trans hrow;have kO:=Kp.step2 hK hK2 (by intro n;simp[inR]<;>omega) (aA hK);have kB:=Kp.step2 hKB hKB2 (by intro n;simp[inR]<;>omega) (aA hKB);have kE:=Kp.step2 hKE hKE2 (by intro n;simp[inR]) hKE;have hq1:QB 17179869184 (1:Rat):=nR;have hq2:=t4.mono' (m:=8589934592) aw;have hmm:(1:Rat)*m.2=m.2:=Rat.one_mul _;simp -dsimp only[go_sem,r7,b7,r1,r0];refine aP (args':=[iE m.1]) rfl (me _) ?_;simp -dsimp only[go_sem,eN];refine bC av 9 11 [] true [.tmp 49] none av av av av aE ?_;simp -dsimp only[go_sem,r7,b7,r1,r0,Int.reduceToNat,Int.reduceLE,aC];refine aQ c1 ?_;simp -dsimp only[go_sem,r7,b7,r1,r0,Int.reduceToNat,Int.reduceLE,aC];refine aP (args':=[iQ m.2,iQ 1]) rfl (sV _ _ aH (t4.mono' aw) hq1) ?_;rw[Do];simp -dsimp only[go_sem,r7,b7,r1,r0,Int.reduceToNat,Int.reduceLE,aC];simp -dsimp only[go_sem,r6,rr,hg,az,hlen]
    repeat(refine And.intro aw ?_)
    simp -dsimp only[go_sem,r7,r1,r0];refine aP (args':=[iM one1,iM [m]]) rfl (x8 one1 [m] aH au (fun t ht=>by simp at ht;subst ht;simp[Ex.lt,e0]) (fun t ht=>by simp at ht;subst ht;unfold Ex.lt;omega)
     (fun t ht=>by simp at ht;subst ht;exact hq1) (fun t ht=>by simp at ht;subst ht;exact t4.mono' aw) ?_) ?_
    ·intro i' j' hi' hj';obtain rfl:i'=0:=by simp at hi';omega
     obtain rfl:j'=0:=by simp at hj';omega
     refine⟨?_,fun e q hq=>?_⟩
     ·show QB 8589934592 ((1:Rat)*m.2);rw[hmm];exact hq2
     ·simp[rowM,sumM]at hq
    rw[FJ ⟨by unfold cZ;exact t1,t2,t3,t4⟩];simp -dsimp only[go_sem,r0];refine ao (Es (m::R) [m] ar hRq (fun t ht=>by simp at ht;subst ht;exact hq2)) rfl ?_;rw[Fe];simp -dsimp only[go_sem];refine bc (N.length-(i+1)) 6 53 6 aw rfl rfl aw aH ⟨(aA kO),(aA kB),(aA kE),i+1,rfl,aw,by rw[eR];simp -dsimp only[go_sem],?_⟩;exact Own.mk2 (Nat.succ_pos _) (by simp -dsimp only[go_sem];rfl) (by simp -dsimp only[go_sem];rfl) ar (by simp only[<-List.map_take];rw[htk,List.map_append];rfl)
  ·have hA:¬ (0:Int)<((0:Nat):Int):=aw;obtain rfl:i=N.length:=aw;rw[List.take_length]at hrow;rw[List.drop_length]at h0;simp -dsimp only[go_sem,h0,hA];exact⟨(aA hK),hKB,hKE,Own.mk hg h6 au hrow⟩
 ·rintro e τ β ε π hK hKB hKE ⟨rfl,g,mm,hg,h6,hrow⟩;refine⟨_,bA.refl _,?_⟩;rw[az]at h6;simp -dsimp only[go_sem,h6,hrow,hg]
theorem J1 {N:List Tm} (hN:N≠[]):Fn Tryz.prog 151 [iM N,iM one1] [iM one1]:=by
 have e1:decide ((N.length:Int)=0)=false:=aG fun h=>hN (List.eq_nil_of_length_eq_zero aw);have e2:decide (((1:Nat):Int)=0)=false:=rfl;refine aJ (fn:=Tryz.f151) ?_;simp -dsimp only[go_sem,e1,e2,az];refine ao (nG N) rfl ?_;by_cases h1:zE N=true
 ·simp -dsimp only[go_sem,h1];refine aK BM ?_;simp -dsimp only[go_sem]
 ·have e3:zE N=false:=by simpa using h1
  simp -dsimp only[go_sem,e3];refine ao (nG one1) rfl ?_;rw[show zE one1=true from rfl];simp -dsimp only[go_sem];refine aK BM ?_;simp -dsimp only[go_sem]
theorem tD (N:List Tm):eh N 1=N:=by
 rw[jA _ aH]
 conv=>rhs;rw[<-List.map_id N]
 exact List.map_congr_left fun t _=>by rw[Rat.mul_one];rfl
theorem yH:∀ t∈one1,Tok t:=by
 intro t ht;simp at ht;subst ht;refine⟨by simp[cZ,e0],by simp[Ex.lt,e0],aH,?_,?_⟩
 ·exact ax (fJ (k:=1) aH) aw
 ·exact ax (fJ (k:=1) aH) aw
theorem AL (N:List Tm) (hl:N.length<=1048576) (h:∀ t∈N,Tok t):Fn Tryz.prog 110 [iM N,iM one1] [iF N one1,iN 0]:=by
 by_cases hN:N=[]
 ·subst hN;exact AK au
 have q1:∀ t∈N,QB 17179869184 t.2:=fun t ht=>(h t ht).2.2.2.mono' aw;have:=J8 (N:=N) (D:=one1) (G:=one1) (N1:=N) (D1:=one1) (c:=1) (x:=(e0,1)) au hN (J1 hN) (AQ N hl h) (AQ one1 aH yH) rfl aH nR (Do 1).symm
  (j6 N 1 aw q1 nR) (j6 one1 1 aH (fun t ht=>(yH t ht).2.2.2.mono' aw) nR)
 rw[tD,tD]at this;exact this
abbrev F2:=List Tm×List Tm
def fr2 (x:F2):List C:=[cM x.1,cM x.2]
abbrev fl (l:List F2):IV := .c (.lst (l.map fr2))
theorem Mx {a:List Tm} {v:Nat} {L:List (List Tm)} (hl:L.length<=1099511627776) (h:FnM Tryz.prog 89 [iM a,iN v] 1 (L.map fun N=>[cM N])):Fn Tryz.prog 43 [iM a,iN v] [fl (L.map fun N=>(N,one1))]:=by
 refine aJ (fn:=Tryz.f43) ?_;simp -dsimp only[go_sem];refine cq h ?_;simp -dsimp only[go_sem,az];refine cj 5 5 2 (rs:=[]) rfl au ?_;refine br [(5,5),(7,7),(12,21)] [] [(20,20),(5,5)] (fun n τ β ε=>∃ i:Nat,n=L.length-i/\i<=L.length/\τ 12 = .i (iN i)/\Own 2 ((L.take i).map fun N=>fr2 (N,one1)) 5 5 τ ε)
  (fun e τ β ε=>e = .exit 0/\Own 2 (L.map fun N=>fr2 (N,one1)) 5 5 τ ε) L.length ?_ ?_ ?_
 ·exact⟨0,aw,aw,rfl,Own.mk (g:=1) (mm:=false) (len:=0) aw rfl rfl rfl⟩
 ·rintro n τ β ε π hK hKB hKE ⟨i,hn,hi,h12,g,mm,hg,h5,hrow⟩;have k10:τ 10 = .sl 10 1 L.length:=(hK 10 rfl).trans rfl;have k11:τ 11 = .i (iN L.length):=(hK 11 rfl).trans rfl;have e10:ε 10=⟨1,1,L.map fun N=>[cM N],!L.isEmpty,true⟩:=by rw[hKE 10 aH];simp -dsimp only[go_sem,List.isEmpty_map]
  have hlen:(L.take i).length=i:=by simp;omega
  rw[az,hlen]at h5;by_cases hlt:i<L.length
  ·have hA:(i:Int)<(L.length:Int):=aw;have hgl:L[i]?=some L[i]:=aD hlt;have htk:L.take (i+1)=L.take i++[L[i]]:=aq hlt;simp -dsimp only[go_sem,h12,k10,k11,e10,hA,az];refine⟨hlt,aQ hgl ?_⟩;simp -dsimp only[go_sem,h12,k10,k11,e10,h5,hrow];refine aP (args':=[iM L[i]]) rfl (vj _) ?_;simp -dsimp only[go_sem,h12,h5,hrow,hg,az,hlen]
   repeat(refine And.intro aw ?_)
   refine bc (L.length-(i+1)) 5 20 5 aw rfl rfl aw aH ⟨(aA hK),hKB,(aA hKE),i+1,rfl,aw,rfl,?_⟩;exact Own.mk2 (Nat.succ_pos _) (by simp -dsimp only[go_sem];rfl) (by simp -dsimp only[go_sem];rfl) ar (by simp only[<-List.map_take];rw[htk,List.map_append];rfl)
  ·have hA:¬ (i:Int)<(L.length:Int):=aw;obtain rfl:i=L.length:=aw;rw[List.take_length]at hrow;simp -dsimp only[go_sem,h12,k11,hA];exact⟨(aA hK),hKB,hKE,Own.mk hg h5 au hrow⟩
 ·rintro e τ β ε π hK hKB hKE ⟨rfl,g,mm,hg,h5,hrow⟩;refine⟨_,bA.refl _,?_⟩;rw[az]at h5;simp -dsimp only[go_sem,h5,hrow,hg];simp[Function.comp_def]
theorem Px (rs:List (List C)):FnC Tryz.prog 95 [.c (.lst rs)] 136 [[.lst rs]]:=by
 refine rD kd (fn:=Tryz.f95) av rfl rfl rfl av au av ?_;simp -dsimp only[go_sem,j0];refine mi (ts:=[(1,1)]) (by simp -dsimp only[go_sem]) (by simp -dsimp only[go_sem]) ?_;simp -dsimp only[go_sem,xE];exact⟨[(1,1)],rfl,au,au,rfl⟩
theorem MK (l:List F2) (hl:l.length<=1099511627776):JZ Tryz.prog 136 [[.lst (l.map fr2)]] (wu (fun x=>iF x.1 x.2) l):=by
 refine pn (fn:=Tryz.f136) av rfl rfl rfl av au av ?_;intro c hc hbl hL;rw[zC];have hb1:c.bs.length=1:=hbl;refine WPi.seq_k hc kd fun K hK _=>?_;simp -dsimp only[go_sem,az]
 repeat(refine And.intro aw ?_)
 refine hK _ (cN hb1) ?_;refine WPi.block (WPi.loop (fun n s k=>∃ τ,s=⟨τ,upd mI 1000 ⟨1,[.lst (l.map fr2)]⟩,oF,nx⟩/\τ 0=sc (.func (.yield c.l) #[] #[])/\τ 1 = .bp 1000 1 0/\n<=l.length/\τ 3 = .i (iN ((n:Int)-1))/\k=some (l.length-n)) (n:=l.length) ⟨_,rfl,rfl,rfl,ay _,rfl,au⟩ ?_);rintro n s k ⟨τ,rfl,h0,h1,hn,h3,rfl⟩;refine WPi.seq_k hc kd fun K hK hK2=>?_;cases n with
 | zero =>
  have e1:decide ((0:Int)<=((0:Nat):Int)-1)=false:=rfl;simp -dsimp only[go_sem,h3,e1];refine hK2 _ _ au (cN hb1) ?_;refine⟨.inl rfl,.inl ?_⟩;rw[jH];simp
 | succ n =>
  have en:((n+1:Nat):Int)-1=(n:Int):=aw;rw[en]at h3;have e1:decide ((0:Int)<=(n:Int))=true:=aF aw;have hg:l[n]?=some l[n]:=aD aw;simp -dsimp only[go_sem,h3,e1];refine hK _ (cN hb1) ?_;refine WPi.seq ?_;refine WPi.block ?_;refine WPi.seq ?_;refine WPi.yreg_k hc kd 6 17 (l.length-(n+1)) [iN (n:Int),iF l[n].1 l[n].2] rfl rfl rfl rfl (by rw[hL];exact ol _ _ aw) fun K1 K2 hK1 hK2=>?_;simp -dsimp only[go_sem,h0,h1,h3];refine aQ hg ?_;simp -dsimp only[go_sem,h0,h1,h3,fr2];refine⟨cN hb1,rfl,?_⟩;refine⟨hK1 _ (cN hb1) ?_,hK2 _ (cN hb1) ?_⟩
  ·refine WPi.end_k hc kd fun K hK=>?_;simp -dsimp only[go_sem];refine hK _ _ (cN hb1) ?_;refine WPi.end_k hc kd fun K hK=>?_;simp -dsimp only[go_sem,h3]
   repeat(refine And.intro aw ?_)
   refine hK _ _ (cN hb1) ?_;refine⟨n,aw,_,rfl,h0,h1,aw,rfl,?_⟩;congr 1;omega
  ·refine WPi.end_k hc kd fun K hK=>?_;simp -dsimp only[go_sem];refine hK _ _ (cN hb1) ?_;exact⟨.inr rfl,.inr rfl⟩
theorem QY (l:List F2) (v:Nat) (hv:v<4) (hl:l.length<=1099511627776) (o:Nat->F2) (h0:Fn Tryz.prog 63 [iN 0] [.g (fr2 (o 0))])
  (H:∀(k:Nat) (h:k<l.length),∃ m:F2,Fn Tryz.prog 65 [.g (fr2 (o k)),iF [(e0.to v 1,1)] one1] [.g (fr2 m)]/\Fn Tryz.prog 64 [.g (fr2 m),.g (fr2 l[l.length-(k+1)])] [.g (fr2 (o (k+1)))]) :
  Fn Tryz.prog 48 [fl l,iN v] [.g (fr2 (o l.length))]:=by
 refine oy (fn:=Tryz.f48) av rfl rfl rfl av au av ?_;refine WPn.seq_k kd fun K hK _=>?_;simp -dsimp only[go_sem];refine hK _ ?_;refine WPn.seq_k kd fun K hK _=>?_;simp -dsimp only[go_sem];refine aK h0 ?_;simp -dsimp only[go_sem];refine⟨rfl,hK _ ?_⟩;refine WPn.seq ?_;refine WPn.seq_k kd fun K hK _=>?_;simp -dsimp only[go_sem];refine oj [1000] rfl rfl rfl (Px (l.map fr2)) au rfl ?_;rw[Ab];simp -dsimp only[go_sem];refine hK _ (WPn.block (WPn.rangeFunc (ts:=[(1000,1)]) [3,5] (fun k cs=>cs=[[C.v (.int .i64 (v:Int))],fr2 (o k)]) (fun _ _=>False) (by simp -dsimp only[go_sem]) (by simp -dsimp only[go_sem]) au rfl (MK l hl) au (by simp -dsimp only[go_sem];decide) ?_ ?_ ?_ ?_ ?_))
 ·simp -dsimp only[go_sem];rfl
 ·intro x hx;obtain⟨p,-,rfl⟩:=List.mem_map.1 hx;rfl
 ·rintro k x cs hx rfl -;have hk:k<l.length:=by
   have:=(List.getElem?_eq_some_iff.1 hx).1;rwa [jH]at this
  have hx2:=ol (fun x:F2=>iF x.1 x.2) l (i:=l.length-(k+1)) aw;rw[show l.length-(l.length-(k+1)+1)=k by omega,hx]at hx2;cases hx2;obtain⟨m,H1,H2⟩:=H k hk;generalize hs:bW _ _ _ _ _=s;obtain⟨τ,β,ε,π⟩:=s;have h12:τ 12 = .i (iF l[l.length-(k+1)].1 l[l.length-(k+1)].2):=by
   rw[se hs];simp -dsimp only[go_sem,bW,jj]
  have h3:τ 3 = .bp 3 1 0:=by
   rw[se hs];simp -dsimp only[go_sem,bW,jj];rw[oW]<;>simp -dsimp only[go_sem]
  have h5:τ 5 = .bp 5 1 0:=by
   rw[se hs];simp -dsimp only[go_sem,bW,jj];rw[oW]<;>simp -dsimp only[go_sem]
  have b3:β 3=⟨1,[C.v (.int .i64 (v:Int))]⟩:=by
   rw[CF hs];simp -dsimp only[go_sem,bW,eU]
  have b5:β 5=⟨1,fr2 (o k)⟩:=by
   rw[CF hs];simp -dsimp only[go_sem,bW,eU]
  clear hs;generalize l[l.length-(k+1)]=y at *
  refine WP.end_k kd fun K hK=>?_;simp -dsimp only[go_sem,h12];refine hK _ _ ⟨rfl,?_⟩;refine WP.end_k kd fun K hK=>?_;simp -dsimp only[go_sem,h12,h3,h5,b3,b5];refine ap 6 [] false true ?_;simp -dsimp only[go_sem,h12,h3,h5,b3,b5];refine ao (My v hv) rfl ?_;simp -dsimp only[go_sem,h12,h3,h5,b3,b5,fr2];refine ao H1 rfl ?_;simp -dsimp only[go_sem,h12,h3,h5,b3,b5,fr2];refine ao H2 rfl ?_;simp -dsimp only[go_sem,h12,h3,h5,b3,b5,fr2];refine hK _ _ ⟨by simp -dsimp only[go_sem,b3],?_⟩;simp -dsimp only[go_sem,b3];rfl
 ·rintro cs γs rfl-hγ;obtain⟨g,rfl⟩:=List.length_eq_one_iff.1 hγ;rw[jH];rw[iO,jq];refine WPn.end_k kd fun K hK=>?_;dsimp only[List.map,setB];simp -dsimp only[go_sem,fr2];refine hK _ _ ⟨.inr rfl,?_⟩;simp -dsimp only[go_sem,fr2]
 ·intro e cs γs _ h;exact h.elim
end Go.AM
namespace Alg
open Classical
section
variable {F:Type} [CR F] [Fd F]
theorem X_c (i:Nat):(ak:P F).c i=if i=1 then 1 else 0:=rfl
theorem zt (c:F) (i:Nat):(ak-an c).c i=if i=0 then -c else if i=1 then 1 else 0:=by
 rw[i7,X_c]
 match i with
 | 0=>rw[if_neg aw,nJ,if_pos rfl,sub_eq,zero_add]
 | 1=>rw[if_pos rfl,ft,sub_zero];rfl
 | i+2=>rw[if_neg aw,ft,sub_zero];rfl
theorem fI (c:F):aa (ak-an c)=2:=kp (fun i hi=>by rw[zt,if_neg aw,if_neg aw]) fun _=>by rw[zt,if_neg aw,if_pos rfl];exact one_ne
theorem jT (c:F):(ak-an c:P F)≠0:=fun h=>by
 have:=fI c;rw[h,aM.2 rfl]at this;omega
theorem BV (c:F):lc (ak-an c)=1:=by rw[lc,fI,zt,if_neg aw,if_pos rfl]
theorem Lf (c:F):der (ak-an c)=1:=by rw[LO,QJ,QK,sub_zero]
theorem l6:aa (1:P F)=1:=jd (R:=F) one_ne
theorem za:(1:P F)≠0:=dP (R:=F) one_ne
theorem ni {a b q r:P F} (h:a=q*b+r) (hr:aa r<aa b):ab a b=r:=(n7 h hr).2
theorem P8 {a b q r:P F} (h:a=q*b+r) (hr:aa r<aa b):qu a b=q:=(n7 h hr).1
theorem xh {a b q:P F} (hb:b≠0) (h:a=q*b):ab a b=0:=ni (q:=q) (by rw[h,add_zero]) (by rw[aM.2 rfl];exact aT hb)
theorem nj {a b q:P F} (hb:b≠0) (h:a=q*b):qu a b=q:=P8 (q:=q) (r:=0) (by rw[h,add_zero]) (by rw[aM.2 rfl];exact aT hb)
theorem dU {a:P F} {c:F} (hc:c≠0):ab a (an c)=0:=xh (q:=a*an (inv c)) (dP hc) (by rw[mul_assoc,<-bB,cJ hc,co,mul_one])
theorem eu1 {a b:P F} (hb:b≠0) (h:ab a b=0):eu a b=[(a,b)]:=by rw[ju hb,h,jt]
theorem eu2 {a b r:P F} (hb:b≠0) (h:ab a b=r) (hr:r≠0) (h2:ab b r=0):eu a b=[(a,b),(b,r)]:=by rw[ju hb,h,eu1 hr h2]
theorem eu3 {a b r s:P F} (hb:b≠0) (h:ab a b=r) (hr:r≠0) (h2:ab b r=s) (hs:s≠0) (h3:ab r s=0):eu a b=[(a,b),(b,r),(r,s)]:=by rw[ju hb,h,eu2 hr h2 hs h3]
theorem gd1 {a b:P F} (hb:b≠0) (h:ab a b=0):ai a b=mn b:=by
 rw[<-DO hb,h,od]
theorem gd2 {a b r:P F} (hb:b≠0) (h:ab a b=r) (hr:r≠0) (h2:ab b r=0):ai a b=mn r:=by
 rw[<-DO hb,h,gd1 hr h2]
theorem K4 {c:F} (hc:c≠0):mn (an c)=1:=by rw[mn,jf,<-bB,cJ hc,co]
theorem Oq (c:F):mn (ak-an c)=ak-an c:=pS (BV c)
end
def PC (w:Nat) (p:P KQ):Prop:=∃(B:P Int) (A:Nat->P Int),B≠0/\(∀ i,p.c i*em (toQ B)=em (toQ (A i)))/\aa B<=w+1/\n1 B<=2 ^ w/\∀ i,aa (A i)<=w+1/\n1 (A i)<=2 ^ w
theorem PC.mono {w v:Nat} {p:P KQ} (h:PC w p) (hv:w<=v):PC v p:=by
 obtain⟨B,A,h1,h2,h3,h4,h5⟩:=h;exact⟨B,A,h1,h2,aw,ax h4 (cT hv),fun i=>⟨by have:=(h5 i).1;omega,ax (h5 i).2 (cT hv)⟩⟩
theorem PC.fb {w:Nat} {p:P KQ} (h:PC w p) (i:Nat):FB w (p.c i):=by
 obtain⟨B,A,h1,h2,h3,h4,h5⟩:=h;exact⟨A i,B,h1,OI (dv h1) (h2 i),(h5 i).1,(h5 i).2,h3,h4⟩
theorem w7 {A:P Int}:toQ A=0↔A=0:=⟨fun h=>Classical.byContradiction fun h'=>dv h' h,fun h=>by rw[h,cK]⟩
theorem Dw {p:P KQ} {A:Nat->P Int} {B:P Int} (h:∀ i,p.c i*em (toQ B)=em (toQ (A i))) {i:Nat} (hi:p.c i=0):A i=0:=by
 have:=h i;rw[hi,zero_mul,<-oe]at this;exact w7.1 (xF this).symm
theorem BP {H:Nat}:∀(n s:Nat) {f:Nat->Nat->P Int},(∀ i j,s<=i->f i j=0)->(∀ i j,n1 (f i j)<=H)->n1 (tri f n)<=s*H
 | 0,s,f,hz,hH=>by
  cases s with
  | zero=>simp only[tri];rw[hz 0 0 (ay _),iI];omega
  | succ s=>simp only[tri];exact ax (hH 0 0) (Nat.le_mul_of_pos_left _ aw)
 | n+1,s,f,hz,hH=>by
  simp only[tri];cases s with
  | zero =>
   rw[hz 0 _ (ay _),zero_add];exact BP n 0 (f:=fun i j=>f (i+1) j) (fun i j _=>hz _ _ aw) (fun i j=>hH _ _)
  | succ s =>
   have h1:=BP n s (f:=fun i j=>f (i+1) j) (fun i j h=>hz _ _ aw) (fun i j=>hH _ _);have h2:=mf (f 0 (n+1)) (tri (fun i j=>f (i+1) j) n);have h3:=hH 0 (n+1);rw[Nat.succ_mul];omega
theorem He {N:Nat}:∀(n:Nat) {f:Nat->Nat->P Int},(∀ i j,aa (f i j)<=N)->aa (tri f n)<=N
 | 0,f,h=>h 0 0
 | n+1,f,h=>by
  simp only[tri];exact c8 (h _ _) (He n fun i j=>h _ _)
theorem I8:∀(n:Nat) (f:Nat->Nat->P Int),em (toQ (tri f n))=tri (fun i j=>em (toQ (f i j))) n
 | 0,f=>rfl
 | n+1,f=>by
  simp only[tri];rw[ko,uH,I8 n]
theorem PC.mul {w v k:Nat} {p q:P KQ} (h:PC w p) (h':PC v q) (hk:aa p<=2 ^ k):PC (w+v+k) (p*q):=by
 obtain⟨B,A,h1,h2,h3,h4,h5⟩:=h;obtain⟨B',A',k1,k2,k3,k4,k5⟩:=h';refine⟨B*B',fun n=>tri (fun i j=>A i*A' j) n,a6 h1 k1,fun n=>?_,?_,?_,fun n=>⟨?_,?_⟩⟩
 ·rw[I8,io,mul_comm,<-sC];refine d9 fun i j _=>?_;rw[cm,o8,cm,o8,<-h2,<-k2];exact ring [p.c i,q.c j,em (toQ B),em (toQ B')]
 ·have:=ge h3 k3;omega
 ·exact ax (je _ _) (ax (bh h4 k4) (cT aw))
 ·exact ax (He (N:=w+v+1) n (f:=fun i j=>A i*A' j) fun i j=>ge (h5 i).1 (k5 j).1) aw
 ·have:=BP (H:=2 ^ (w+v)) n (aa p) (f:=fun i j=>A i*A' j) (fun i j hi=>by rw[Dw h2 (aO hi),zero_mul]) fun i j=>ax (je _ _) (bh (h5 i).2 (k5 j).2);refine ax this (ax (bh hk (ay _)) (cT aw))
theorem PC.add {w v:Nat} {p q:P KQ} (h:PC w p) (h':PC v q):PC (w+v+1) (p+q):=by
 obtain⟨B,A,h1,h2,h3,h4,h5⟩:=h;obtain⟨B',A',k1,k2,k3,k4,k5⟩:=h';refine⟨B*B',fun i=>A i*B'+A' i*B,a6 h1 k1,fun i=>?_,?_,?_,fun i=>⟨?_,?_⟩⟩
 ·rw[cf,cm,o8,ko,uH,cm,o8,cm,o8,<-h2,<-k2];exact ring [p.c i,q.c i,em (toQ B),em (toQ B')]
 ·have:=ge h3 k3;omega
 ·exact ax (je _ _) (ax (bh h4 k4) (cT aw))
 ·refine c8 ?_ ?_
  ·have:=ge (h5 i).1 k3;omega
  ·have:=ge (k5 i).1 h3;omega
 ·have e1:=ax (je (A i) B') (bh (h5 i).2 k4);have e2:=ax (je (A' i) B) (bh (k5 i).2 h4);rw[Nat.add_comm v w]at e2;exact ax (mf _ _) (j5 e1 e2)
theorem PC.neg {w:Nat} {p:P KQ} (h:PC w p):PC w (-p):=by
 obtain⟨B,A,h1,h2,h3,h4,h5⟩:=h;exact⟨B,fun i => -A i,h1,fun i=>by rw[wt,neg_mul,h2,pD,Ci],h3,h4,fun i=>by rw[kM,qV];exact h5 i⟩
theorem PC.sub {w v:Nat} {p q:P KQ} (h:PC w p) (h':PC v q):PC (w+v+1) (p-q):=by rw[sub_eq];exact h.add h'.neg
theorem PC.C {w:Nat} {c:KQ} (h:FB w c):PC w (an c):=by
 obtain⟨A,B,h1,h2,h3,h4,h5,h6⟩:=h;refine⟨B,fun i=>if i=0 then A else 0,h1,fun i=>?_,h5,h6,fun i=>?_⟩
 ·cases i with
  | zero=>dsimp only;rw[if_pos rfl,nJ,h2,wi (dv h1)]
  | succ i=>dsimp only;rw[if_neg aw,ft,zero_mul,cK,oe]
 ·dsimp only;split
  ·exact⟨h3,h4⟩
  ·exact⟨by rw[aM.2 rfl];omega,by rw[iI];exact Nat.zero_le _⟩
theorem PC.lin {w:Nat} {c:KQ} (h:FB w c):PC w (ak-an c):=by
 obtain⟨A,B,h1,h2,h3,h4,h5,h6⟩:=h;refine⟨B,fun i=>if i=0 then -A else if i=1 then B else 0,h1,fun i=>?_,h5,h6,fun i=>?_⟩
 ·dsimp only;rw[zt];by_cases h0:i=0
  ·rw[if_pos h0,if_pos h0,h2,neg_mul,wi (dv h1),pD,Ci]
  ·rw[if_neg h0,if_neg h0];by_cases h9:i=1
   ·rw[if_pos h9,if_pos h9,one_mul]
   ·rw[if_neg h9,if_neg h9,zero_mul,cK,oe]
 ·dsimp only;split
  ·exact⟨by rw[kM];exact h3,by rw[qV];exact h4⟩
  ·split
   ·exact⟨h5,h6⟩
   ·exact⟨by rw[aM.2 rfl];omega,by rw[iI];exact Nat.zero_le _⟩
theorem Qk (n:Nat):n1 (nc n:P Int)<=n:=by
 induction n with
 | zero=>exact Nat.le_of_eq iI
 | succ n ih =>
  have h1:n1 (1:P Int)<=1:=by
   rw[gh (n:=1) (by rw[show aa (1:P Int)=1 from jd (R:=Int) aH];exact ay _)];exact ay 1
  have:=mf (nc n:P Int) 1;show n1 (nc n+1:P Int)<=_;omega
theorem QF (n:Nat):em (toQ (nc n:P Int))=(nc n:KQ):=by
 induction n with
 | zero=>exact(congrArg em cK).trans oe
 | succ n ih =>
  show em (toQ (nc n+1:P Int))=nc n+1;rw[ko,uH,ih,nX,OP]
theorem P0 (n:Nat):aa (nc n:P Int)<=1:=by rw[<-Ps];exact cn fun i hi=>by cases i with|zero=>omega|succ i=>rfl
theorem PC.der {w k:Nat} {p:P KQ} (h:PC w p) (hk:aa p<=2 ^ k):PC (w+k) (der p):=by
 obtain⟨B,A,h1,h2,h3,h4,h5⟩:=h;refine⟨B,fun i=>if aa p<=i then 0 else nc (i+1)*A (i+1),h1,fun i=>?_,aw,ax h4 (cT aw),fun i=>?_⟩
 ·dsimp only;rw[jZ,mul_assoc,h2];split
  ·rename_i hi;rw[Dw h2 (aO (p:=p) (i:=i+1) aw),cK,oe,mul_zero]
  ·rw[cm,o8,QF]
 ·dsimp only;split
  ·exact⟨by rw[aM.2 rfl];omega,by rw[iI];exact Nat.zero_le _⟩
  ·rename_i hi;refine⟨?_,?_⟩
   ·have:=bg (nc (i+1):P Int) (A (i+1));have:=P0 (i+1);have:=(h5 (i+1)).1;omega
   ·refine ax (je _ _) ?_;rw[Nat.add_comm w k];exact bh (ax (Qk _) aw) (h5 _).2
theorem PC.smul {w v:Nat} {p:P KQ} {c:KQ} (h:FB v c) (hp:PC w p):PC (v+w) (an c*p):=(PC.C h).mul hp (k:=0) (cn fun i hi=>by cases i with|zero=>simp at hi|succ i=>rfl)
end Alg
namespace Go.AM
open Alg
open Go.Proofs
open Classical
theorem PC.pw {w:Nat} {p:KP} (h:Alg.PC w p):PW w p:=fun i=>h.fb i
theorem wD2 (w v:Nat) {n:Nat} (h:n<=2):wD w v n<=4*w+6*v+3:=by
 refine ax (pz w v h) ?_;simp only[wD];omega
theorem lL {p q:KP} {w v:Nat} (hq0:q≠0) (hp:PW w p) (hq:PW v q) (hn:aa p<=aa q+1) (hb:4*w+6*v+3<=1000) (hs:aa q<=900):Fn Tryz.prog 82 [ku p,ku q] [ku (ab p q)] :=
 Q3 hq0 hp hq (ax (wD2 w v aw) hb) aw aw aw
theorem Gx {p q:KP} {w v:Nat} (hq0:q≠0) (hp:PW w p) (hq:PW v q) (hn:aa p<=aa q+1) (hb:4*w+6*v+3<=1000) (hs:aa q<=900):Fn Tryz.prog 81 [ku p,ku q] [ku (qu p q)] :=
 Pr hq0 hp hq (ax (wD2 w v aw) hb) aw aw aw
theorem Nt {a:KP} {w:Nat} (ha:PW w a) (hw:2*w<=1000) (hs:aa a<=900):Fn Tryz.prog 24 [ku a,ku 0] [ku (ai a 0)] :=
 ya (fun x hx=>by rw[jt]at hx;simp at hx) (by rw[nB];exact sW ha hw aw)
theorem Ns {a b:KP} {v:Nat} (hb0:b≠0) (hb:PW v b) (hv:2*v<=1000) (hs:aa b<=900) (hr:ab a b=0) (c1:Fn Tryz.prog 82 [ku a,ku b] [ku (ab a b)]):Fn Tryz.prog 24 [ku a,ku b] [ku (ai a b)] :=
 ya (fun x hx=>by rw[eu1 hb0 hr]at hx;simp at hx;subst hx;exact c1) (by rw[qc hb0,hr,nB];exact sW hb hv aw)
theorem Nr {a b r:KP} {v:Nat} (hb0:b≠0) (hr:ab a b=r) (hr0:r≠0) (h2:ab b r=0) (hw:PW v r) (hv:2*v<=1000) (hs:aa r<=900) (c1:Fn Tryz.prog 82 [ku a,ku b] [ku (ab a b)]) (c2:Fn Tryz.prog 82 [ku b,ku r] [ku (ab b r)]):Fn Tryz.prog 24 [ku a,ku b] [ku (ai a b)] :=
 ya (fun x hx=>by
  rw[eu2 hb0 hr hr0 h2]at hx;simp at hx;rcases hx with rfl|rfl
  ·exact c1
  ·exact c2) (by rw[qc hb0,hr,qc hr0,h2,nB];exact sW hw hv aw)
theorem QB1 (k:Nat) (h:2<=k):QB k 1:=⟨ax (fJ (k:=1) aH) aw,ax (fJ (k:=1) aH) aw⟩
def T1 (t:Tm):Prop:=cZ t.1/\t.1.lt 1099511627776/\t.2=1
theorem T1.tok {t:Tm} (h:T1 t):Tok t:=⟨h.1,h.2.1,by rw[h.2.2];decide,by rw[h.2.2];exact QB1 _ aw⟩
theorem T1.q {t:Tm} (h:T1 t) {k:Nat} (hk:2<=k):QB k t.2:=by rw[h.2.2];exact QB1 _ hk
theorem T1.l {t:Tm} (h:T1 t):t.1.lt 2305843009213693952:=by
 obtain⟨-,h,-⟩:=h;unfold Ex.lt at h ⊢;omega
abbrev ma:List Tm:=[(⟨1,0,0,0⟩,1)]
abbrev mb:List Tm:=[(⟨0,1,0,0⟩,1)]
abbrev mbb:List Tm:=[(⟨0,2,0,0⟩,1)]
abbrev mabb:List Tm:=[(⟨1,2,0,0⟩,1)]
abbrev mab:List Tm:=[(⟨1,1,0,0⟩,1)]
abbrev mab1:List Tm:=[(⟨1,1,0,0⟩,1),(e0,1)]
abbrev mL:List Tm:=[(⟨1,2,0,0⟩,1),(⟨0,1,0,0⟩,1)]
theorem oU (a b:Nat) (ha:a<=5) (hb:b<=5):T1 (⟨a,b,0,0⟩,1):=⟨by simp[cZ],by simp[Ex.lt];omega,rfl⟩
theorem qE {L:List Tm} (h:∃ l:List (Nat×Nat),L=l.map (fun p=>((⟨p.1,p.2,0,0⟩:Ex),(1:Rat)))/\∀ p∈l,p.1<=5/\p.2<=5):∀ t∈L,T1 t:=by
 obtain⟨l,rfl,h⟩:=h;intro t ht;obtain⟨p,hp,rfl⟩:=List.mem_map.1 ht;exact oU _ _ (h p hp).1 (h p hp).2
theorem Qm (t u:Tm) (hu:u.2=1):t7 [t] [u]=[(t.1.add u.1,t.2)]:=by
 simp only[t7,List.foldl_cons,List.foldl_nil,gZ,fv,ns,hu,List.map_cons,List.map_nil];rw[if_neg aH,show t.2*(1:Rat)=t.2 from Rat.mul_one _]
theorem No (t u:Tm) (ht:T1 t) (hu:T1 u):Fn Tryz.prog 57 [iM [t],iM [u]] [iM [(t.1.add u.1,1)]]:=by
 have:=Ax [t] [u] au au (fun x hx=>by simp at hx;subst hx;exact ht.q aw) (fun x hx=>by simp at hx;subst hx;exact hu.q aw) (fun x hx=>by simp at hx;subst hx;exact ht.l) (fun x hx=>by simp at hx;subst hx;exact hu.l)
  (fun i hi=>by
   obtain rfl:i=0:=by simp at hi;omega
   refine⟨fun x hx=>by simp[t7]at hx,fun x hx=>?_,by simp[t7]⟩;simp only[List.getElem_cons_zero,fv,ns,hu.2.2,List.map_cons,List.map_nil]at hx;rw[if_neg aH]at hx;simp at hx;subst hx;rw[ht.2.2];exact QB1 _ aw)
 rwa [Qm _ _ hu.2.2,ht.2.2]at this
theorem P4:Fn Tryz.prog 57 [iM mb,iM mb] [iM mbb]:=No _ _ (oU 0 1 aw aw) (oU 0 1 aw aw)
theorem MS:Fn Tryz.prog 57 [iM ma,iM mbb] [iM mabb]:=No _ _ (oU 1 0 aw aw) (oU 0 2 aw aw)
theorem QR:gC mabb mb=mL:=by
 rw[jJ,if_pos aH,gZ]
theorem sML:Fn Tryz.prog 56 [iM mabb,iM mb] [iM mL]:=by
 have:=qq mabb mb au (fun x hx=>by simp at hx;subst hx;exact QB1 _ aw) (fun x hx=>by simp at hx;subst hx;exact QB1 _ aw);rwa [QR]at this
abbrev cs3:List F2:=[([],one1),(one1,one1),(ma,one1)]
theorem P6:Fn Tryz.prog 43 [iM mL,iN 1] [fl cs3]:=by
 have h:=wM mL 1 aw au (fun t ht=>by
  simp at ht;rcases ht with rfl|rfl
  ·exact⟨aH,aH⟩
  ·exact⟨aH,aH⟩) aH au
 rw[show qf mL 1=[[],one1,ma]by decide +kernel]at h;exact Mx (v:=1) au h
theorem Iy (n:PQ):kr (Alg.em n)=fr2 (U n,one1):=by
 obtain⟨h1,h2⟩:=H5 n;rw[kr,h1,h2,wz];rfl
theorem DG:kr 0=fr2 ([],one1):=by
 have:=Iy 0;rwa [cu]at this
theorem U_Xm:U ak=ma:=Ar 1 aH
noncomputable abbrev xK:KQ:=Alg.em ak
theorem OU:fl cs3=kl [0,1,xK]:=by
 have e1:kr 1=fr2 (one1,one1):=by
  have:=Iy 1;rwa [wz]at this
 have e2:kr xK=fr2 (ma,one1):=by
  have:=Iy ak;rwa [U_Xm]at this
 show IV.c (.lst _)=IV.c (.lst _);simp only[List.map_cons,List.map_nil,DG,e1,e2]
theorem Nq (a:List Tm) (u:Tm) (R:List Tm) (ha:∀ t∈a,T1 t) (hu:T1 u) (hl:a.length<=2) (hm:FK a [u]=R) (hq:∀ i<a.length,∀ e q,(e,q)∈sumM (a.take i) [u] []->q=1):Fn Tryz.prog 111 [iM a,iM [u]] [iM R]:=by
 have:=x8 a [u] aw au (fun t ht=>(ha t ht).l) (fun t ht=>by simp at ht;subst ht;exact hu.l) (fun t ht=>(ha t ht).q aw) (fun t ht=>by simp at ht;subst ht;exact hu.q aw)
  (by
   intro i j hi hj;have hj':j<1:=hj;obtain rfl:j=0:=aw;refine⟨?_,fun e q hq'=>?_⟩
   ·show QB _ (a[i].2*u.2);rw[(ha _ (List.getElem_mem hi)).2.2,hu.2.2,show(1:Rat)*1=1 from Rat.mul_one 1];exact QB1 8589934592 aw
   ·rw[hq i hi e q hq'];exact QB1 _ aw)
 rwa [hm]at this
theorem same1:Fn Tryz.prog 138 [iM one1,iM one1] [iB true]:=by
 have:=AP one1 one1 au (fun t ht=>by simp at ht;subst ht;exact QB1 _ aw) (fun t ht=>by simp at ht;subst ht;exact QB1 _ aw);rwa [aF rfl]at this
theorem mul11:Fn Tryz.prog 111 [iM one1,iM one1] [iM one1]:=Nq one1 (e0,1) one1 (qE ⟨[(0,0)],rfl,au⟩) (oU 0 0 aw aw) au aE (fun i hi e q h=>by
 obtain rfl:i=0:=by simp at hi;omega
 simp[sumM]at h)
theorem Ka (a:List Tm) (u:Tm) (R:List Tm) (ha:∀ t∈a,T1 t) (hu:T1 u) (hl:a.length<=2) (hm:FK a [u]=R) (hq:∀ i<a.length,∀ e q,(e,q)∈sumM (a.take i) [u] []->q=1) (hR:∀ t∈R,T1 t) (lR:R.length<=2) :
  Fn Tryz.prog 65 [iF a one1,iF [u] one1] [iF R one1]:=Ev (Nq a u R ha hu hl hm hq) mul11 (AL R aw fun t ht=>(hR t ht).tok)
theorem Kb (a b R:List Tm) (ha:∀ t∈a,T1 t) (hb:∀ t∈b,T1 t) (hla:a.length<=2) (hlb:b.length<=2) (hm:gC a b=R) (hR:∀ t∈R,T1 t) (lR:R.length<=2):Fn Tryz.prog 64 [iF a one1,iF b one1] [iF R one1]:=by
 have h:=x9 a b aw (fun t ht=>(ha t ht).q aw) (fun t ht=>(hb t ht).q aw);rw[hm]at h;exact Ew (qA same1 h (AL R aw fun t ht=>(hR t ht).tok)) ⟨_,_,rfl⟩ ⟨_,_,rfl⟩ ⟨_,_,rfl⟩
def oT:Nat->F2
 | 0=>([],one1)
 | 1=>(ma,one1)
 | 2=>(mab1,one1)
 | _=>(mL,one1)
theorem sTo:Fn Tryz.prog 48 [fl cs3,iN 1] [iF mL one1]:=by
 have ta:∀ t∈ma,T1 t:=qE ⟨[(1,0)],rfl,au⟩;have t1:∀ t∈one1,T1 t:=qE ⟨[(0,0)],rfl,au⟩;have tab:∀ t∈mab,T1 t:=qE ⟨[(1,1)],rfl,au⟩;have tab1:∀ t∈mab1,T1 t:=qE ⟨[(1,1),(0,0)],rfl,au⟩;have tL:∀ t∈mL,T1 t:=qE ⟨[(1,2),(0,1)],rfl,au⟩;have t0:∀ t∈([]:List Tm),T1 t:=au;have tb:T1 (⟨0,1,0,0⟩,1):=oU 0 1 aw aw;refine QY cs3 1 aw au oT ?_ fun k hk=>?_
 ·have:=cB 0 aH;have e:IV.g (fr2 (oT 0))=iK (kn 0):=by
   rw[fF];show IV.g (fr2 ([],one1))=IV.g (kr 0);rw[DG]
  rw[e];exact this
 ·have hk3:k<3:=hk;obtain rfl|rfl|rfl:k=0\/k=1\/k=2:=aw
  ·exact⟨([],one1),Ka [] _ [] t0 tb au aE (fun i hi=>absurd hi au) t0 au,Kb [] ma ma t0 ta au au (gZ _) ta au⟩
  ·refine⟨(mab,one1),Ka ma _ mab ta tb au aE (fun i hi e q h=>?_) tab au,Kb mab one1 mab1 tab t1 au au ?_ tab1 au⟩
   ·obtain rfl:i=0:=by simp at hi;omega
    simp[sumM]at h
   ·rw[jJ,if_pos aH,gZ]
  ·refine⟨(mL,one1),Ka mab1 _ mL tab1 tb au aE (fun i hi e q h=>?_) tL au,Kb mL [] mL tL t0 au au (jI _) tL au⟩;have hi':i<2:=hi;obtain rfl|rfl:i=0\/i=1:=aw
   ·simp[sumM]at h
   ·simp[sumM,rowM,addT]at h;exact h.2
theorem P3:Fn Tryz.prog 49 [iM mL] [iF mL one1]:=by
 have:=wF mL;rwa [wz]at this
theorem N9:Fn Tryz.prog 41 [iF mL one1,iF mL one1] [iB true]:=by
 have tq:∀ L:List Tm,(L=mL\/L=one1)->∀ t∈L,QB 17179869184 t.2:=fun L hL t ht=>by
  rcases hL with rfl|rfl<;>simp at ht
  ·rcases ht with rfl|rfl<;>exact QB1 _ aw
  ·subst ht;exact QB1 _ aw
 have e1:=rt mL mL au (tq _ (.inl rfl)) (tq _ (.inl rfl));have e2:=rt one1 one1 au (tq _ (.inr rfl)) (tq _ (.inr rfl));rw[aF rfl]at e1 e2;have h87:Fn Tryz.prog 87 [iF mL one1,iF mL one1] [iB true]:=by
  refine aJ (fn:=Tryz.f87) ?_;simp -dsimp only[go_sem,Int.reduceToNat,Int.reduceLE,aC];refine ao e1 rfl ?_;simp -dsimp only[go_sem,Int.reduceToNat,Int.reduceLE,aC];refine ao e2 rfl ?_;simp -dsimp only[go_sem]
 refine aJ (fn:=Tryz.f41) ?_;simp -dsimp only[go_sem];refine ao h87 rfl ?_;simp -dsimp only[go_sem]
end Go.AM
namespace Alg
open Classical
section
variable {F:Type} [CR F] [Fd F]
theorem Le (a b:F):(ak-an a)-(ak-an b)=an (b-a):=by rw[Nu];exact ring [ak,an a,an b]
theorem N6 {a b:F} (h:a≠b):b-a≠0:=fun e=>h (by
 have:=congrArg (· + a) e;simp only[sub_eq,zero_add]at this;rw[add_assoc,neg_add,add_zero]at this;exact this.symm)
theorem div9 {t:F} (ht:t*ic 9=1) (f g:P F):f*g=an t*(f+f+g)*(g+g+f)+(-(an t*ic 2*(f-g)*(f-g))):=by
 have e:an t*(ic 9:P F)=1:=by rw[<-Q5,<-bB,ht,co]
 have h:f*g*(an t*ic 9)=an t*(f+f+g)*(g+g+f)+(-(an t*ic 2*(f-g)*(f-g))):=ring [f,g,an t];rwa [e,mul_one]at h
theorem OB {t a b:F} : -(an t*ic 2*((ak-an a)-(ak-an b))*((ak-an a)-(ak-an b)))=an (-(t*ic 2*(b-a)*(b-a))):=by
 rw[Le,kJ,bB,bB,bB,Q5]
theorem Im (c:F):(ak-an c).c 1=1:=by rw[zt,if_neg aw,if_pos rfl]
theorem mY (a b:F) (h3:(ic 3:F)≠0):aa ((ak-an b)+(ak-an b)+(ak-an a))=2:=kp (fun i hi=>by rw[cf,cf,aO (by rw[fI];omega),aO (by rw[fI];omega),add_zero,add_zero]) fun _=>by
 show((ak-an b)+(ak-an b)+(ak-an a)).c 1≠0;rw[cf,cf,Im,Im];intro e;refine h3 ?_;rw[<-e];exact ring []
theorem k_ne {t a b:F} (h:a≠b) (ht:t≠0) : -(t*(b-a)*(b-a))≠0:=fun e=>by
 have h1:=N6 h;have h2:t*(b-a)*(b-a)=0:=by
  have:=congrArg (fun x => -x) e;rwa [neg_neg,fh]at this
 exact a6 (a6 ht h1) h1 h2
end
end Alg
namespace Go.AM
open Alg
open Go.Proofs
open Classical
theorem fV:xK≠0:=DX fun h=>by
 have:=congrArg aa h;rw[aM.2 rfl,show(ak:PQ)=mon 1 1 from rfl,mX 1 aH]at this;omega
theorem eF:FB 1 xK:=by
 refine⟨ak,1,dP (R:=Int) aH,?_,?_,?_,?_,?_⟩
 ·rw[nX];show xK=Alg.em (toQ ak);rw[show(toQ ak:PQ)=ak from nY 1 1]
 ·rw[show(ak:Alg.P Int)=mon 1 1 from rfl,mX 1 aH];omega
 ·rw[gh (n:=2) (by rw[show(ak:Alg.P Int)=mon 1 1 from rfl,mX 1 aH];omega)];exact(by decide:1<=2)
 ·rw[show aa (1:Alg.P Int)=1 from jd (R:=Int) aH];omega
 ·rw[gh (n:=1) (by rw[show aa (1:Alg.P Int)=1 from jd (R:=Int) aH];exact ay _)];exact(by decide:1<=2)
theorem vW {l:List KQ} (h:∀ h:l.length-1<l.length,l[l.length-1]≠0):kl l=ku (ac l):=by
 rw[ku,<-D4 (l:=l) (p:=ac l) (fun i hi=>by rw[si];simp[List.getD,hi]) (fun i hi=>by rw[si];simp[List.getD,List.getElem?_eq_none hi]) h]
theorem pl2 (a b:KQ):ac [a,b]=an a+an b*ak:=Alg.P.ext fun i=>by
 rw[si,cf,bQ,X_c]
 match i with
 | 0=>rw[if_neg aw,mul_zero,add_zero];rfl
 | 1=>rw[if_pos rfl,mul_one,ft,zero_add];rfl
 | i+2=>rw[if_neg aw,mul_zero,ft,zero_add];rfl
theorem pl1 (a:KQ):ac [a]=an a:=Alg.P.ext fun i=>by
 match i with
 | 0=>rfl
 | i+1=>rw[ft];rfl
theorem vc:PW 0 (ak:KP):=fun i=>by
 rw[X_c];split
 ·exact ig (z:=1) aH
 ·exact dX 0
theorem oC {w:Nat} {c:KQ} (h:FB w c):PW w (an c):=fun i=>by
 cases i with
 | zero=>exact h
 | succ i=>exact dX w
theorem Gv:PW 0 (1:KP):=oC (ig (z:=1) aH)
theorem kq:aa (ak:KP)=2:=mX 1 one_ne
theorem Iv:kl [kn 0,kn 1]=ku ak:=by
 rw[vW (fun _=>zA aH),pl2,fF,fC,bR,zero_add,co,one_mul]
noncomputable abbrev yK:KQ:=Alg.inv xK
theorem xy:(an xK:KP)*an yK=1:=by rw[<-bB,mul_inv fV,co]
theorem mO:FB 1 yK:=eF.inv fV
theorem yo:yK≠0:=fK fV
noncomputable abbrev dQ:KP:=an (-(yK*yK))+an yK*ak
theorem KF:(ak*ak:KP)=dQ*(an 1+an xK*ak)+an (yK*yK):=by
 have h:dQ*(an 1+an xK*ak)+an (yK*yK)=(ak*ak:KP)-(1-an xK*an yK)*(ak*ak-an yK*ak):=by
  rw[dQ,kJ,bB,co];exact ring [ak,an xK,an yK]
 rw[h,xy,sub_self,zero_mul,sub_zero]
theorem Dc:aa (an 1+an xK*ak:KP)=2:=kp (fun i hi=>by
 rw[cf,bQ,X_c,if_neg aw,mul_zero,add_zero];cases i with
 | zero=>omega
 | succ i=>rfl) fun _=>by
 show(an 1+an xK*ak:KP).c 1≠0;rw[cf,bQ,X_c,if_pos rfl,mul_one,ft,zero_add];exact fV
theorem gv (c:KQ):aa (an c:KP)<=1:=cn fun i hi=>by cases i with|zero=>omega|succ i=>rfl
theorem JQ {c:KQ} {w:Nat} (h:FB w c):PW w (an c*ak:KP):=by
 have:=vc.scale h;rwa [mul_comm,Nat.zero_add]at this
theorem Q0:PW 2 (an 1+an xK*ak:KP):=(oC (ig (z:=1) (w:=0) aH)).add (JQ eF)
theorem Oa:Fn Tryz.prog 14 [ku ak,ku ak] [ku (ak*ak)]:=AI vc vc (by rw[kq];omega) (by rw[kq];omega) (by rw[kq];omega) aw aw
theorem sDiv:Fn Tryz.prog 18 [ku (ak*ak),ku (an 1+an xK*ak)] [ku dQ,ku (an (yK*yK)),iN 0]:=by
 have hq0:(an 1+an xK*ak:KP)≠0:=fun h=>by have:=Dc;rw[h,aM.2 rfl]at this;omega
 have hsz:aa (ak*ak:KP)<=3:=by have:=bg (ak:KP) ak;rw[kq]at this;omega
 have h:=vg hq0 (Ql vc vc) Q0 (by
  rw[kq,Dc];exact ax (wD2 _ _ aw) aw) aw aw (by rw[Dc];omega)
 obtain⟨e1,e2⟩:=n7 KF (by rw[Dc];have:=gv (yK*yK);omega);rwa [e1,e2]at h
noncomputable abbrev lX:KP:=ak-an xK
theorem ke {w:Nat} {c:KQ} (h:FB w c):PW w (ak-an c:KP):=PC.pw (Alg.PC.lin h)
theorem Ov:kl [-xK,kn 1]=ku lX:=by
 rw[vW (fun _=>zA aH),pl2,fC,kJ,co,one_mul];show ku _=ku _;rw[show -an xK+ak=(lX:KP)from ring [an xK,ak]]
theorem M4:kl [kn 1]=ku 1:=DF.symm
theorem reX:ab ak lX=an xK:=ni (q:=1) (ring [ak,an xK]) (by rw[fI];have:=gv xK;omega)
theorem P5:Fn Tryz.prog 24 [ku ak,ku lX] [ku (ai ak lX)] :=
 Nr (jT _) reX (dP fV) (Alg.dU fV) (oC eF) aw (by have:=gv xK;omega) (lL (jT _) vc (ke eF) (by rw[kq,fI];omega) aw (by rw[fI];omega))
  (lL (dP fV) (ke eF) (oC eF) (by rw[fI,jd fV];omega) aw (by have:=gv xK;omega))
theorem gdX:ai ak lX=1:=by rw[gd2 (jT _) reX (dP fV) (Alg.dU fV),K4 fV]
theorem dR {c:KQ} (h:c≠0):aa (an c:KP)=1:=jd h
theorem KE:Fn Tryz.prog 28 [ku ak,ku lX,ku 1] [ku (an yK),ku (-an yK),iN 0]:=by
 have h1:qu 1 (ab ak lX)=an yK:=by
  rw[reX];exact nj (dP fV) (by rw[mul_comm,xy])
 have szl:aa lX=2:=fI _;have s1:aa (1:KP)=1:=l6;have e1:(1:KP)*an yK=an yK:=one_mul _;have hre:ab (1*an yK) lX=an yK:=ni (q:=0) (by rw[zero_mul,zero_add,e1]) (by rw[szl];have:=gv yK;omega);have wy:PW 1 (an yK:KP):=oC mO;have wyX:PW 2 (an yK*ak:KP):=(JQ mO).mono aw;have hsm:=bg (an yK:KP) ak;rw[kq]at hsm;have sy:=gv yK;have hq:qu (1-an yK*ak) lX = -an yK:=nj (jT _) (by
  have : -an yK*lX=an xK*an yK-an yK*ak:=ring [ak,an xK,an yK];rw[this,xy])
 refine CU P5 (by rw[gdX,l6]) szl (by rw[reX,dR fV]) (lL (jT _) vc (ke eF) (by rw[kq,szl];omega) aw (by rw[szl];omega)) ?_ ?_ ?_ ?_ ?_ ?_
 ·rw[reX];exact Gx (dP fV) Gv (oC eF) (by rw[s1,dR fV];omega) aw (by rw[dR fV];omega)
 ·rw[h1];exact AI Gv wy (by rw[s1];omega) (by rw[s1];omega) aw aw aw
 ·rw[h1];have:=lL (p:=1*an yK) (jT xK) (by rw[e1];exact wy) (ke eF) (by rw[e1,fI];omega) aw (by rw[fI];omega);rwa [hre]at this
 ·exact AI wy vc (ax (Nat.mul_le_mul_right _ sy) aw) aw (by rw[kq];omega) aw aw
 ·exact JW Gv wyX aw (by rw[s1];omega) aw
 ·have:=Gx (p:=1-an yK*ak) (jT xK) (Gv.sub wyX) (ke eF) (by
   rw[fI];have:=gH (p:=(1:KP)) (q:=an yK*ak) (n:=2) (by rw[s1];omega) aw;omega) aw (by rw[fI];omega)
  rwa [hq]at this
theorem KD:Fn Tryz.prog 28 [ku ak,ku ak,ku 1] [ku 0,ku 0,iN 60]:=by
 have hX:(ak:KP)≠0:=fun h=>by have:=kq;rw[h,aM.2 rfl]at this;omega
 have hr:ab (ak:KP) ak=0:=xh (q:=1) hX (one_mul _).symm;refine Gw (Ns hX vc aw (by rw[kq];omega) hr (lL hX vc vc aw aw (by rw[kq];omega))) ?_;rw[gd1 hX hr,Ib,kq];omega
noncomputable abbrev sq1:KP:=1+ak*ak
theorem N7:kl [kn 1,kn 0,kn 1]=ku sq1:=by
 rw[vW (fun _=>zA aH)];show ku _=ku _;congr 1;have:ac [kn 1,kn 0,kn 1]=(1+ak*ak:KP):=Alg.P.ext fun i=>by
  rw[si,cf,show(ak*ak:KP)=mon 1 1*mon 1 1 from rfl,dK,bY,mul_one,fF,fC]
  match i with
  | 0=>rw[if_neg aw,add_zero];rfl
  | 1=>rw[if_neg aw,add_zero];rfl
  | 2=>rw[if_pos rfl];exact(zero_add _).symm
  | i+3=>rw[if_neg aw,add_zero];rfl
 rw[this]
theorem Df (i:Nat):sq1.c i=if i=0\/i=2 then 1 else 0:=by
 rw[cf,show(ak*ak:KP)=mon 1 1*mon 1 1 from rfl,dK,bY,mul_one]
 match i with
 | 0=>rw[if_neg aw,add_zero];rfl
 | 1=>rw[if_neg aw,add_zero];rfl
 | 2=>rw[if_pos rfl];exact zero_add _
 | i+3=>rw[if_neg aw,add_zero];rfl
theorem jc:aa sq1=3:=kp (fun i hi=>by rw[Df,if_neg aw]) fun _=>by rw[Df,if_pos aw];exact one_ne
theorem xu:lc sq1=1:=by rw[lc,jc,Df,if_pos aw]
theorem JP:PW 0 sq1:=fun i=>by
 rw[Df];split
 ·exact ig (z:=1) aH
 ·exact dX 0
noncomputable abbrev kR:KQ:=1+xK*xK
theorem FB1 (w:Nat):FB w 1:=(ig (z:=1) (w:=0) aH).mono (Nat.zero_le w)
theorem ul:FB 4 kR:=((FB1 0).add (eF.mul eF)).mono aw
theorem vX:kR≠0:=fun h=>by
 have h1:(Alg.em (1+ak*ak):KQ)=Alg.em 0:=by
  rw[uH,o8];exact h
 have h2:=congrArg (fun p=>p.c 0) (xF h1);rw[show(ak*ak:PQ)=mon 1 1*mon 1 1 from rfl,dK]at h2;exact absurd h2 aE
theorem Oh:ab lX sq1=lX:=ni (q:=0) (by rw[zero_mul,zero_add]) (by rw[fI,jc];omega)
theorem Og:ab sq1 lX=an kR:=ni (q:=ak+an xK) (by
 rw[wN,bB,co];exact ring [ak,an xK]) (by rw[fI];have:=gv kR;omega)
theorem sRes:Fn Tryz.prog 35 [ku lX,ku sq1] [iK (kz 1+xK*xK)]:=by
 have sl:aa lX=2:=fI _;have ll:lc lX=1:=BV _;have hq0:sq1≠0:=fun h=>by have:=jc;rw[h,aM.2 rfl]at this;omega
 have he:eu lX sq1=[(lX,sq1),(sq1,lX),(lX,an kR)]:=eu3 hq0 Oh (jT _) Og (dP vX) (Alg.dU vX);have sk:aa (an kR:KP)=1:=dR vX;have pw1:∀ n,Alg.pw (1:KQ) n=1:=fun n=>by
  induction n with
  | zero=>rfl
  | succ n ih=>simp only[Alg.pw,ih,mul_one]
 have o1:jR lX sq1 1=1:=by
  rw[iu (x:=(lX,sq1)) (by rw[he];rfl)];simp only[xu,pw1,sgR,sl,jc];rw[if_neg aw];exact mul_one _
 have o2:jR lX sq1 2=1:=by
  rw[iu (x:=(sq1,lX)) (by rw[he];rfl)];simp only[ll,pw1,sgR,sl,jc,o1];rw[if_neg aw];exact mul_one _
 have lk:lc (an kR:KP)=kR:=jf _;have pk:Alg.pw kR 1=kR:=by simp only[Alg.pw,one_mul,mul_one]
 have f1:FW (1:KQ):=FB1 1000;have fk:FW kR:=ul.mono aw;have h:=Et (a:=lX) (b:=sq1) (m:=2) (z:=(lX,an kR)) (jT _) hq0 aw (by rw[jc];omega) (by rw[he];rfl) (by rw[he];rfl) fun k x hx=>by
  rw[he]at hx
  match k,hx with
  | 0,hx =>
   simp at hx;subst hx;exact⟨lL hq0 (ke eF) JP (by rw[sl,jc];omega) aw (by rw[jc];omega),by dsimp only;omega,by rw[jc];omega,by rw[xu];exact f1,f1,by rw[xu,pw1];exact f1,by rw[xu,pw1];exact(FB1 0).mul (FB1 1000) |>.mono aw,fun h=>absurd h (by rw[jc];omega)⟩
  | 1,hx =>
   simp at hx;subst hx;exact⟨lL (jT _) JP (ke eF) (by rw[sl,jc];omega) aw (by rw[sl];omega),by rw[jc];omega,by dsimp only;omega,by rw[ll];exact f1,by rw[o1];exact f1,by rw[ll,pw1];exact f1,by rw[ll,pw1,o1];exact(FB1 0).mul (FB1 1000) |>.mono aw,fun h=>absurd h (by rw[sl];omega)⟩
  | 2,hx =>
   simp at hx;subst hx;exact⟨lL (dP vX) (ke eF) (oC ul) (by rw[sl,sk];omega) aw (by rw[sk];omega),by dsimp only;omega,by rw[sk];omega,by rw[lk];exact fk,by rw[o2];exact f1,by
    rw[lk,Alg.dU vX,sl,aM.2 rfl];simp only[Alg.pw,one_mul];exact(ul.mul ul).mono aw,by
    rw[lk,Alg.dU vX,sl,aM.2 rfl,o2];simp only[Alg.pw,one_mul];exact(ul.mul ul).mono aw,fun _=>by
    rw[lk,sl,o2];show FW (Alg.pw kR 1)/\FW (1*Alg.pw kR 1);rw[pk,one_mul];exact⟨fk,fk⟩⟩
  | n+3,hx=>simp at hx
 rw[tN,if_pos sk,o2,lk,sl]at h;rw[show Alg.pw kR (2-1)=kR from pk,one_mul]at h;exact h
theorem SqOf {p P D G Q1 Q2:KP} {m w wp wg wd:Nat} {out:List (KP×Nat)} (hp2:2<=aa p) (hs:aa p<=5) (hm:m<=1000) (wp0:PW wp p) (hwp:2*wp<=1000) (hP:mn p=P) (wP:PW w P) (hw:w<=990) (hD:der P=D) (wD0:PW wd D) (hG:ai P D=G)
  (cG:Fn Tryz.prog 24 [ku P,ku D] [ku (ai P D)]) (wG:PW wg G) (hwg:wg<=1000) (hG0:G≠0) (e1:P=Q1*G) (e2:D=Q2*G) (b1:wD w wg (aa P+1-aa G)<=1000) (b2:wD wd wg (aa D+1-aa G)<=1000) (hsG:aa G<=900)
  (hR:SqR m 1 Q1 Q2 out):Fn Tryz.prog 31 [ku p] [.c (.lst (out.map sqr))]:=by
 have sP:aa P=aa p:=by rw[<-hP,Ib]
 have sD:aa D<=aa P-1:=by rw[<-hD];exact Co P
 have q1:=nj hG0 e1;have q2:=nj hG0 e2;subst hP hD hG;refine CT hp2 hm (sW wp0 hwp aw) (CX wP aw aw) cG (Pr hG0 wP wG b1 hwg aw aw) (Pr hG0 wD0 wG b2 hwg aw aw) ?_;rw[q1,q2];exact hR
theorem Pg {b:KP} {n w:Nat} (wb:PW w b) (hw:24*w+7<=1000) (hl:lc b=1) (hs:2<=aa b) (hs':aa b<=5):SqR 1 n b (der b) [(b,n)]:=by
 have hb0:b≠0:=fun h=>by rw[h,aM.2 rfl]at hs;omega
 have e0:der b-der b=0:=sub_self _;have eg:ai b (der b-der b)=b:=by rw[e0,od,pS hl]
 have wd:=Ni wb aw;have sd:=Co b;have q1:qu b b=1:=nj hb0 (one_mul _).symm;have q2:qu 0 b=0:=nj hb0 (zero_mul _).symm;have w0:PW 0 (0:KP):=fun i=>dX 0;have s0:aa (0:KP)=0:=aM.2 rfl;have step:=SqR.step (m:=0) (n:=n) (b:=b) (c:=der b) (out:=[]) aw (CX wb aw aw) (JW wd wd aw aw aw) (by rw[e0];exact Nt wb aw aw)
  (by rw[eg];exact Gx hb0 wb wb aw aw aw) (by rw[eg,e0];exact Gx hb0 w0 wb aw aw aw) (by rw[eg,e0,q1,q2];exact SqR.stop (by rw[l6];omega))
 rw[eg,if_pos aw]at step;exact step
theorem Pf {b c d g:KP} {m n w v u k:Nat} {out:List (KP×Nat)} (wb:PW w b) (wc:PW v c) (wd:PW u d) (wg:PW k g) (hw:w+10+v+1<=1000) (hs:2<=aa b) (hs':aa b<=3) (hsc:aa c<=3) (hd:c-der b=d) (hg:ai b d=g) (hsg:aa g=2) (hsd:aa d<=3) {q1 q2:KP}
  (cG:Fn Tryz.prog 24 [ku b,ku d] [ku (ai b d)]) (hb1:4*w+6*k+3<=1000) (hb2:4*u+6*k+3<=1000) (e1:b=q1*g) (e2:d=q2*g) (hR:SqR m (n+1) q1 q2 out):SqR (m+1) n b c ((g,n)::out):=by
 have hg0:g≠0:=fun h=>by rw[h,aM.2 rfl]at hsg;omega
 have h1:=nj hg0 e1;have h2:=nj hg0 e2;have sd:=Co b;have step:=SqR.step (m:=m) (n:=n) (b:=b) (c:=c) (out:=out) aw (CX wb aw aw) (JW wc (Ni wb aw) aw aw aw) (by rw[hd];exact cG)
  (by rw[hd,hg];exact Gx hg0 wb wg aw hb1 aw) (by rw[hd,hg];exact Gx hg0 wd wg aw hb2 aw) (by rw[hd,hg,h1,h2];exact hR)
 rw[hd,hg,if_pos aw]at step;exact step
theorem M6 (n:Nat):(ic (n:Int):KQ)=kn (n:Int):=by rw[IG,DJ]
theorem us {n:Nat} (h:n≠0):(ic (n:Int):KQ)≠0:=by rw[M6];exact zA aw
theorem M7 {n w:Nat} (h:n<=2 ^ w):FB w (ic (n:Int):KQ):=by rw[M6];exact ig (by simpa using h)
noncomputable abbrev t4:KQ:=Alg.inv (ic 4)
noncomputable abbrev t9:KQ:=Alg.inv (ic 9)
theorem PX:FB 4 t9:=(M7 (n:=9) aH).inv (us (n:=9) aH)
theorem N4:t9*ic 9=1:=cJ (us (n:=9) aH)
section
variable {a b:KQ}
noncomputable abbrev LN (c:KQ):KP:=ak-an c
theorem kC (c:KQ):aa (LN c)=2:=fI c
theorem kD (c:KQ):LN c≠0:=jT c
theorem vV (c:KQ):lc (LN c)=1:=BV c
theorem uf (c:KQ):der (LN c)=1:=Lf c
theorem szm {p q:KP} (hp:p≠0) (hq:q≠0):aa (p*q)=aa p+aa q-1:=dw hp hq
theorem lcm1 {p q:KP} (hp:lc p=1) (hq:lc q=1):lc (p*q)=1:=by rw[gy,hp,hq,one_mul]
theorem Db (p:KP) {c:KQ} (hc:c≠0):aa (p*an c)=aa p:=by rw[mul_comm,bS hc]
theorem M2 {p:KP} {c:KQ} (hc:c≠0) (hl:lc p=1):mn (p*an c)=p:=by rw[mul_comm,zi hc,pS hl]
theorem MU {p g q:KP} {c:KQ} (hc:c≠0) (hg:g≠0) (h:p=q*g):ab p (g*an c)=0:=by
 refine xh (q:=q*an (Alg.inv c)) (a6 hg (dP hc)) ?_;have e:(an c:KP)*an (Alg.inv c)=1:=by rw[<-bB,mul_inv hc,co]
 have h2:q*an (Alg.inv c)*(g*an c)=q*g*(an c*an (Alg.inv c)):=ring [q,g,an c,an (Alg.inv c)];rw[h2,e,mul_one,h]
noncomputable abbrev k11 (a b:KQ):KQ := -(t4*(b-a)*(b-a))
noncomputable abbrev k21 (a b:KQ):KQ := -(t9*ic 2*(b-a)*(b-a))
theorem xz (h:a≠b):k21 a b≠0:=k_ne h (a6 (fK (us (n:=9) aH)) (us (n:=2) aH))
theorem OA (ha:FB 8 a) (hb:FB 8 b):FB 39 (k21 a b):=(((PX.mul (M7 (n:=2) (w:=1) aH)).mul (hb.sub ha)).mul (hb.sub ha)).neg.mono aw
theorem d21:der (LN a*LN a*LN b)=LN a*(LN b+LN b+LN a):=by
 rw[xJ,xJ,uf,uf];exact ring [LN a,LN b]
theorem re21:ab (LN a*LN a*LN b) (LN a*(LN b+LN b+LN a))=LN a*an (k21 a b):=by
 have h3:aa (LN b+LN b+LN a)=2:=mY a b (us (n:=3) aH);have hn:LN b+LN b+LN a≠0:=fun h=>by rw[h,aM.2 rfl]at h3;omega
 have h9:=div9 N4 (LN a) (LN b);rw[OB]at h9;refine ni (q:=an t9*(LN a+LN a+LN b)) ?_ ?_
 ·have e1:LN a*LN a*LN b=LN a*(LN a*LN b):=mul_assoc _ _ _;rw[e1,h9];exact ring [LN a,LN b,an t9,an (k21 a b)]
 ·rw[szm (kD a) hn,h3,kC];have:=bg (LN a) (an (k21 a b));have:=gv (k21 a b);rw[kC]at *
  omega
theorem gd21 (h:a≠b):ai (LN a*LN a*LN b) (LN a*(LN b+LN b+LN a))=LN a:=by
 have h3:aa (LN b+LN b+LN a)=2:=mY a b (us (n:=3) aH);have hn:LN b+LN b+LN a≠0:=fun h=>by rw[h,aM.2 rfl]at h3;omega
 rw[gd2 (a6 (kD a) hn) re21 (a6 (kD a) (dP (xz h))) (MU (xz h) (kD a) (mul_comm _ _)),M2 (xz h) (vV a)]
theorem y7 (ha:FB 8 a):Alg.PC 8 (LN a):=Alg.PC.lin ha
theorem HM (ha:FB 8 a) (hb:FB 8 b):Alg.PC 17 (LN a*LN b):=(y7 ha).mul (y7 hb) (k:=1) (by rw[kC];decide)
theorem HN (ha:FB 8 a) (hb:FB 8 b):Alg.PC 27 (LN a*LN a*LN b):=(HM ha ha).mul (y7 hb) (k:=2) (by rw[szm (kD a) (kD a),kC];decide)
theorem Sq21 {c:KQ} (hab:a≠b) (ha:FB 8 a) (hb:FB 8 b) (hc0:c≠0) (hc:FB 8 c):Fn Tryz.prog 31 [ku (LN a*LN a*LN b*an c)] [.c (.lst ([(LN b,1),(LN a,2)].map sqr))]:=by
 have na:=kD a;have nb:=kD b;have naa:=a6 na na;have nP:=a6 naa nb;have sa:=kC a;have sb:=kC b;have sP:aa (LN a*LN a*LN b)=4:=by rw[szm naa nb,szm na na,sa,sb]
 have lP:lc (LN a*LN a*LN b)=1:=lcm1 (lcm1 (vV a) (vV a)) (vV b);have h3:aa (LN b+LN b+LN a)=2:=mY a b (us (n:=3) aH);have n3:LN b+LN b+LN a≠0:=fun h=>by rw[h,aM.2 rfl]at h3;omega
 have sD:aa (LN a*(LN b+LN b+LN a))=3:=by rw[szm na n3,sa,h3]
 have nD:=a6 na n3;have wP:=PC.pw (HN ha hb);have wDD:PW 29 (LN a*(LN b+LN b+LN a)):=by
  have:=PC.pw ((HN ha hb).der (k:=2) (by rw[sP];decide));rwa [d21]at this
 have k0:=xz hab;have wr:PW 47 (LN a*an (k21 a b)):=(PC.pw (y7 ha)).scale (OA ha hb);have nr:=a6 na (dP k0);have sr:aa (LN a*an (k21 a b))=2:=by rw[Db _ k0,sa]
 have rr:ab (LN a*(LN b+LN b+LN a)) (LN a*an (k21 a b))=0:=MU k0 na (mul_comm _ _);have cG:=Nr nD re21 nr rr wr aw aw (lL nD wP wDD aw aw aw) (lL nr wDD wr aw aw aw);have wa:=PC.pw (y7 ha);have wb:=PC.pw (y7 hb);have wab:=PC.pw (HM ha hb);have wfg:PW 17 (LN a+LN b):=by
  have:=wa.add wb;exact this
 have dab:der (LN a*LN b)=LN a+LN b:=by
  rw[xJ,uf,uf];exact ring [LN a,LN b]
 have wc:PW 35 (LN b+LN b+LN a):=((wb.add wb).add wa).mono aw;refine SqOf (P:=LN a*LN a*LN b) (D:=LN a*(LN b+LN b+LN a)) (G:=LN a) (Q1:=LN a*LN b) (Q2:=LN b+LN b+LN a) (m:=2) (wp:=35) (w:=27) (wg:=8) (wd:=29) ?_ ?_ aw (wP.scale hc) aw (M2 hc0 lP) wP aw d21 wDD (gd21 hab) cG wa aw na (ring [LN a,LN b]) (mul_comm _ _) ?_ ?_ aw ?_
 ·rw[Db _ hc0,sP];omega
 ·rw[Db _ hc0,sP];omega
 ·rw[sP,sa];simp only[wD];omega
 ·rw[sD,sa];simp only[wD];omega
 ·have e0:LN b+LN b+LN a-der (LN a*LN b)=LN b:=by
   rw[dab];exact ring [LN a,LN b]
  have rg:ab (LN a*LN b) (LN b)=0:=xh nb rfl;have eg:ai (LN a*LN b) (LN b)=LN b:=by rw[gd1 nb rg,Oq]
  have last:SqR 1 2 (LN a) 1 [(LN a,2)]:=by
   have:=Pg (n:=2) wa aw (vV a) aw aw;rwa [uf]at this
  have sab:aa (LN a*LN b)=3:=by rw[szm na nb,sa,sb]
  exact Pf (u:=8) (k:=8) wab wc wb wb aw aw aw aw e0 eg sb aw (Ns nb wb aw aw rg (lL nb wab wb aw aw aw)) aw aw rfl (one_mul _).symm last
end
theorem Qx:kl [kn 1,xK]=ku (an 1+an xK*ak):=by rw[vW (fun _=>fV),pl2,fC]
theorem jB {p:KP} {w:Nat} (h:PW w p) (hw:w<=1000) (hs:aa p<=1000):Fn Tryz.prog 15 [ku p,ku p] [iB true]:=by
 have:=Pn h h hw hw hs;rwa [aF rfl]at this
theorem Ik (a:KQ):kn (-1)*a = -a:=by
 rw[show kn (-1) = -(1:KQ)from(Iz 1).trans (by rw[fC]),neg_mul,one_mul]
theorem IC:Alg.inv (xK*xK)=yK*yK:=uo _ _
theorem QL:kl [kn (-1)*Alg.inv (xK*xK),kn 1*yK]=ku dQ:=by
 rw[Ik,IC,fC,one_mul,vW (fun _=>yo),pl2]
theorem IA {c:KQ} (h:c≠0):kl [c]=ku (an c):=by rw[vW (l:=[c]) (fun _=>h),pl1]
theorem Ki:xK≠kn (-1):=fun h=>by
 have h2:=congrArg aa (xF h);rw[show(ak:PQ)=mon 1 1 from rfl,mX 1 aH,jd (R:=Rat) aH]at h2;omega
theorem ue:FB 8 (kn (-1)):=ig aH
theorem s5:FB 8 xK:=eF.mono aw
theorem Oz:kl [kn 1*Alg.inv (xK*xK)]=ku (an (yK*yK)):=by rw[IC,fC,one_mul,IA (a6 yo yo)]
theorem Qw:kl [kn 1*yK]=ku (an yK):=by rw[fC,one_mul,IA yo]
theorem Oy:kl [kn (-1)*yK]=ku (-an yK):=by
 have h : -yK≠0:=fun e=>yo (by have:=congrArg (fun x => -x) e;rwa [neg_neg,fh]at this);rw[Ik,IA h,kJ]
set_option maxHeartbeats 4000000 in
theorem Fk:Fn Tryz.prog 11 [] [iB true]:=by
 have m0:=pm 0 aH;have m1:=pm 1 aH;have mm:=pm (-1) aH;have fx:FW xK:=eF.mono aw;have f1:FW (kn 1):=FB1 1000;have fm:FW (kn (-1)):=ue.mono aw;have fxx:FW (xK*xK):=(eF.mul eF).mono aw;have xx0:xK*xK≠0:=a6 fV fV;have fy:FW yK:=mO.mono aw;have hneg:=uZ fx;have hsq:=j9 fx fx fxx;have o1:=qx fm fxx xx0 ((ue.mul ((eF.mul eF).inv xx0)).mono aw);have o2:=qx f1 fx fV (((FB1 0).mul mO).mono aw);have o3:=qx f1 fxx xx0 (((FB1 0).mul ((eF.mul eF).inv xx0)).mono aw);have o4:=qx fm fx fV ((ue.mul mO).mono aw);have hlx:=qp eF aw;have hlm:=qp ue aw;have wx:=PC.pw (y7 s5);have wxx:=PC.pw (HM s5 s5);have wm:=PC.pw (y7 ue);have sx:=kC xK;have sm:=kC (kn (-1));have sxx:aa (LN xK*LN xK)=3:=by rw[szm (kD _) (kD _),sx]
 have s21:aa (LN xK*LN xK*LN (kn (-1)))=4:=by rw[szm (a6 (kD _) (kD _)) (kD _),sxx,sm]
 have g1:=AI wx wx (by rw[sx];omega) aw aw aw aw;have g2:=AI wxx wm (by rw[sxx];omega) aw aw aw aw;have g3:=Mt (PC.pw (HN s5 ue)) s5 aw aw;have g4:=Sq21 (c:=xK) Ki s5 ue fV s5;have wy:PW 1 (an yK:KP):=oC mO;have wyn:PW 1 (-an yK:KP):=fun i=>(wy i).neg;have wR:PW 2 (an (yK*yK):KP):=oC (mO.mul mO);have wQ:PW 4 dQ:=(oC (mO.mul mO).neg).add (JQ mO);have sy:=gv yK;have syn:aa (-an yK:KP)<=1:=by rw[kM];exact sy
 have sR:=gv (yK*yK);have sQ:aa dQ<=2:=c8 (ax (gv _) aw) (by have:=bg (an yK:KP) ak;rw[kq]at this;omega);have d2:decide (((2:Nat):Int)=2)=true:=rfl;have d1:decide (((1:Nat):Int)=1)=true:=rfl;have d0:decide (((0:Nat):Int)=0)=true:=rfl;have s3:=uY [0,1,xK] [0,1,xK] au (fun f hf=>by
  simp at hf;rcases hf with rfl|rfl|rfl
  ·exact dX _
  ·exact FB1 _
  ·exact fx) (fun f hf=>by
  simp at hf;rcases hf with rfl|rfl|rfl
  ·exact dX _
  ·exact FB1 _
  ·exact fx)
 rw[aF rfl]at s3;have s3':Fn Tryz.prog 15 [fl cs3,kl [kn 0,kn 1,xK]] [iB true]:=by rw[OU,fF,fC];exact s3
 have fs:FW (xK*xK+kn 1):=((eF.mul eF).add (FB1 0)).mono aw;have hadd:=qr fxx f1 fs;have hsame:=wE (f:=kz 1+xK*xK) (g:=xK*xK+kn 1) (ul.mono aw) fs;rw[aF (add_comm _ _)]at hsame;have hTrim:=kg [kn 0] au;have et:dE [kn 0]=[]:=by
  rw[gc,pl1,fF,bR,qi]
 rw[et]at hTrim;have hGcd:=Nt (a:=0) (w:=0) (fun i=>dX 0) aw (by rw[aM.2 rfl];omega);rw[od,js,dx]at hGcd;have hz:=jK (kn 0);rw[aF fF]at hz;refine aJ (fn:=Tryz.f11) ?_;simp -dsimp only[go_sem];refine aK m1 ?_;simp -dsimp only[go_sem];refine ap 4 [] false true ?_;simp -dsimp only[go_sem];refine aK m0 ?_;simp -dsimp only[go_sem];refine aK (iP 0 aw) ?_;simp -dsimp only[go_sem];refine aK (iP 1 aw) ?_;simp -dsimp only[go_sem];refine aK (iP 1 aw) ?_;simp -dsimp only[go_sem];refine ao P4 rfl ?_;simp -dsimp only[go_sem];refine ao MS rfl ?_;simp -dsimp only[go_sem];refine aK (iP 1 aw) ?_;simp -dsimp only[go_sem];refine ao sML rfl ?_;simp -dsimp only[go_sem];refine ao P6 rfl ?_;simp -dsimp only[go_sem];refine ap 14 [] false true ?_;simp -dsimp only[go_sem];refine aP (args':=[ku ak,ku ak]) (by rw[<-Iv];rfl) Oa ?_;simp -dsimp only[go_sem];refine aK lJ ?_;simp -dsimp only[go_sem];refine aP (args':=[ku (ak*ak),ku (an 1+an xK*ak)]) (by rw[<-Qx];rfl) sDiv ?_;simp -dsimp only[go_sem];refine aP (args':=[ku ak,ku 0]) (by rw[<-Iv,dx];rfl) (yb ak) ?_;simp -dsimp only[go_sem];refine ap 15 [] false true ?_;simp -dsimp only[go_sem];refine aK lJ ?_;simp -dsimp only[go_sem];refine ao hneg rfl ?_;simp -dsimp only[go_sem];refine aP (args':=[ku ak,ku lX,ku 1]) (by rw[<-Iv,<-Ov,<-M4];rfl) KE ?_;simp -dsimp only[go_sem];refine aP (args':=[ku ak,ku ak,ku 1]) (by rw[<-Iv,<-M4];rfl) KD ?_;simp -dsimp only[go_sem];refine aK lJ ?_;simp -dsimp only[go_sem];refine ao hlx rfl ?_;simp -dsimp only[go_sem];refine aK lJ ?_;simp -dsimp only[go_sem];refine ao hlx rfl ?_;simp -dsimp only[go_sem];refine ao g1 rfl ?_;simp -dsimp only[go_sem];refine aK mm ?_;simp -dsimp only[go_sem];refine ao hlm rfl ?_;simp -dsimp only[go_sem];refine ao g2 rfl ?_;simp -dsimp only[go_sem];refine aK lJ ?_;simp -dsimp only[go_sem];refine ao g3 rfl ?_;simp -dsimp only[go_sem];refine ao g4 rfl ?_;simp -dsimp only[go_sem];refine aK lJ ?_;simp -dsimp only[go_sem];refine aK lJ ?_;simp -dsimp only[go_sem];refine ao hsq rfl ?_;simp -dsimp only[go_sem];refine ap 26 [] false true ?_;simp -dsimp only[go_sem];refine aK mm ?_;simp -dsimp only[go_sem];refine ao o1 rfl ?_;simp -dsimp only[go_sem];refine aK lJ ?_;simp -dsimp only[go_sem];refine ao o2 rfl ?_;simp -dsimp only[go_sem];refine aP (args':=[ku dQ,ku dQ]) (by rw[<-QL];rfl) (jB wQ aw aw) ?_;simp -dsimp only[go_sem];refine ao o3 rfl ?_;simp -dsimp only[go_sem];refine aP (args':=[ku (an (yK*yK)),ku (an (yK*yK))]) (by rw[<-Oz];rfl) (jB wR aw aw) ?_;simp -dsimp only[go_sem];refine ap 23 [] false true ?_;simp -dsimp only[go_sem];refine aK lJ ?_;simp -dsimp only[go_sem];refine ao o2 rfl ?_;simp -dsimp only[go_sem];refine aP (args':=[ku (an yK),ku (an yK)]) (by rw[<-Qw];rfl) (jB wy aw aw) ?_;simp -dsimp only[go_sem];refine aK mm ?_;simp -dsimp only[go_sem];refine aK lJ ?_;simp -dsimp only[go_sem];refine ao o4 rfl ?_;simp -dsimp only[go_sem];refine aP (args':=[ku (-an yK),ku (-an yK)]) (by rw[<-Oy];rfl) (jB wyn aw aw) ?_;simp -dsimp only[go_sem];refine ap 36 [] false true ?_;simp -dsimp only[go_sem];simp -dsimp only[go_sem,d2,d1,Int.reduceToNat,Int.reduceLE,aC,sqr];refine aK mm ?_;simp -dsimp only[go_sem];refine ao hlm rfl ?_;simp -dsimp only[go_sem];refine ao (jB wm aw aw) rfl ?_;simp -dsimp only[go_sem,Int.reduceToNat,Int.reduceLE,aC,sqr];refine aK lJ ?_;simp -dsimp only[go_sem];refine ao hlx rfl ?_;simp -dsimp only[go_sem];refine ao (jB wx aw aw) rfl ?_;simp -dsimp only[go_sem];refine ap 59 [] false true ?_;simp -dsimp only[go_sem];refine aK m0 ?_;simp -dsimp only[go_sem];refine aK lJ ?_;simp -dsimp only[go_sem];refine ao s3' rfl ?_;simp -dsimp only[go_sem];refine aK lJ ?_;simp -dsimp only[go_sem];refine ao hlx rfl ?_;simp -dsimp only[go_sem];refine aK m0 ?_;simp -dsimp only[go_sem];refine aP (args':=[ku lX,ku sq1]) (by rw[<-N7];rfl) sRes ?_;simp -dsimp only[go_sem];refine ao hadd rfl ?_;simp -dsimp only[go_sem];refine ao hsame rfl ?_;simp -dsimp only[go_sem];refine ao sTo rfl ?_;simp -dsimp only[go_sem];refine aK (iP 0 aw) ?_;simp -dsimp only[go_sem];refine aK (iP 1 aw) ?_;simp -dsimp only[go_sem];refine aK (iP 1 aw) ?_;simp -dsimp only[go_sem];refine ao P4 rfl ?_;simp -dsimp only[go_sem];refine ao MS rfl ?_;simp -dsimp only[go_sem];refine aK (iP 1 aw) ?_;simp -dsimp only[go_sem];refine ao sML rfl ?_;simp -dsimp only[go_sem];refine ao P3 rfl ?_;simp -dsimp only[go_sem];refine ao N9 rfl ?_;simp -dsimp only[go_sem];refine aK m0 ?_;simp -dsimp only[go_sem];refine ao hTrim rfl ?_;simp -dsimp only[go_sem,d0];refine ao hGcd rfl ?_;simp -dsimp only[go_sem,d0];refine aP (args':=[ku 0,ku ak]) (by rw[<-Iv,dx];rfl) (vf (.inl rfl)) ?_;simp -dsimp only[go_sem];refine ao hz rfl ?_;simp -dsimp only[go_sem]
end Go.AM
namespace Go.AM
open Go.Proofs
open Classical
end Go.AM
namespace Go.AM
open Alg
open Go.Proofs
open Classical
theorem re1 {p q:KP} (h:aa q=1):ab p q=0:=by
 have e:=ef (Nat.le_of_eq h);have h0:q.c 0≠0:=fun e0=>by rw[e0,bR]at e;rw[e,aM.2 rfl]at h;omega
 rw[e];exact Alg.dU h0
theorem Jc {r:KP} (h:aa r=1):∃ c,c≠0/\r=an c:=by
 have e:=ef (Nat.le_of_eq h);exact⟨_,fun e0=>by rw[e0,bR]at e;rw[e,aM.2 rfl]at h;omega,e⟩
section
variable {p q:KP} (hp:PW 8 p) (hq:PW 8 q) (sp:aa p<=2) (sq:aa q<=2)
include hp hq sp sq
end
theorem three {P:KP} (h:aa P<=3):P=an (P.c 0)+an (P.c 1)*ak+an (P.c 2)*(ak*ak):=Alg.P.ext fun i=>by
 rw[cf,cf,bQ,bQ,X_c,show(ak*ak:KP)=mon 1 1*mon 1 1 from rfl,dK,bY,mul_one]
 match i with
 | 0=>rw[if_neg aw,if_neg aw,mul_zero,mul_zero,add_zero,add_zero];rfl
 | 1=>rw[if_pos rfl,if_neg aw,mul_zero,mul_one,ft,zero_add,add_zero]
 | 2=>rw[if_neg aw,if_pos rfl,mul_zero,mul_one,ft,add_zero,zero_add]
 | i+3=>rw[if_neg aw,if_neg aw,mul_zero,mul_zero,ft,add_zero,add_zero];exact aO aw
theorem N8 {p q:KP} {x:KQ} {w:Nat} (h:FB w x):FB w (sgR p q x):=by
 unfold sgR;split
 ·exact h.neg
 ·exact h
theorem Pj {a b:KP} {m:Nat} {z:KP×KP} {L:List (KP×KP)} (ha:a≠0) (hb:b≠0) (hL:eu a b=L) (hm:L.length=m+1) (hm2:m<=2) (hz:L[m]?=some z)
  (H:∀ x∈L,Fn Tryz.prog 82 [ku x.1,ku x.2] [ku (ab x.1 x.2)]/\aa x.1<=3/\aa x.2<=3/\FB 109 (lc x.2)):Fn Tryz.prog 35 [ku a,ku b] [iK (tN a b m z)]:=by
 subst hL;have hout:∀ k,k<=m->FB (327*k) (jR a b k):=by
  intro k
  induction k with
  | zero=>intro _;exact FB1 _
  | succ k ih =>
   intro hk;have hlt:k<(eu a b).length:=aw;have hx:(eu a b)[k]?=some (eu a b)[k]:=aD hlt;obtain⟨-,h1,-,h2⟩:=H _ (List.getElem_mem hlt);rw[iu hx];refine N8 (((ih aw).mul (AN h2 _)).mono ?_);have:109*(aa (eu a b)[k].1-aa (ab (eu a b)[k].1 (eu a b)[k].2))<=109*3:=Nat.mul_le_mul_left _ aw;omega
 have h1:aa a<=3/\aa b<=3:=by
  have:=H (a,b) (by rw[ju hb];simp);exact⟨this.2.1,this.2.2.1⟩
 refine Et ha hb aw aw hm hz fun k x hx=>?_;have hk:k<(eu a b).length:=(List.getElem?_eq_some_iff.1 hx).1;have hxm:x∈eu a b:=List.mem_of_getElem? hx;obtain⟨c1,s1,s2,fl⟩:=H x hxm;have ok:=hout k aw;have fp:∀ n,n<=3->FB 327 (Alg.pw (lc x.2) n):=fun n hn=>(AN fl n).mono (by
  have:109*n<=109*3:=Nat.mul_le_mul_left _ hn;omega)
 have ok':FB 654 (jR a b k):=ok.mono aw;exact⟨c1,aw,aw,fl.mono aw,ok.mono aw,(fp _ aw).mono aw,(ok'.mul (fp _ aw)).mono aw,fun _=>⟨(fp _ aw).mono aw,(ok'.mul (fp _ aw)).mono aw⟩⟩
theorem Mm {a b:KP} (ha:a≠0) (hb:b≠0) (h:ab a b=0) (c1:Fn Tryz.prog 82 [ku a,ku b] [ku (ab a b)]) (sa:aa a<=3) (sb:aa b<=3) (fl:FB 109 (lc b)):Fn Tryz.prog 35 [ku a,ku b] [iK (if aa b=1 then Alg.pw (lc b) (aa a-1)else 0)]:=by
 have:=Pj (L:=[(a,b)]) (m:=0) (z:=(a,b)) ha hb (eu1 hb h) rfl aw rfl (fun x hx=>by simp at hx;subst hx;exact⟨c1,sa,sb,fl⟩);have e:tN a b 0 (a,b)=if aa b=1 then Alg.pw (lc b) (aa a-1)else 0:=by
  unfold tN;split
  ·exact one_mul _
  ·rfl
 rwa [e]at this
theorem Jz {a b r:KP} (ha:a≠0) (hb:b≠0) (h:ab a b=r) (hr:r≠0) (h2:ab b r=0) (c1:Fn Tryz.prog 82 [ku a,ku b] [ku (ab a b)]) (c2:Fn Tryz.prog 82 [ku b,ku r] [ku (ab b r)]) (sa:aa a<=3) (sb:aa b<=3) (sr:aa r<=3) (fl:FB 109 (lc b)) (fr:FB 109 (lc r)) :
  Fn Tryz.prog 35 [ku a,ku b] [iK (if aa r=1 then sgR a b (Alg.pw (lc b) (aa a-aa r))*Alg.pw (lc r) (aa b-1)else 0)]:=by
 have he:=eu2 hb h hr h2;have:=Pj (L:=[(a,b),(b,r)]) (m:=1) (z:=(b,r)) ha hb he rfl aw rfl (fun x hx=>by
  simp at hx;rcases hx with rfl|rfl
  ·exact⟨c1,sa,sb,fl⟩
  ·exact⟨c2,sb,sr,fr⟩)
 have o1:jR a b 1=sgR a b (Alg.pw (lc b) (aa a-aa r)):=by
  rw[iu (x:=(a,b)) (by rw[he];rfl)];show sgR a b (1*_)=_;rw[one_mul,h]
 rwa [tN,o1]at this
theorem Res3 {a b r s:KP} (ha:a≠0) (hb:b≠0) (h:ab a b=r) (hr:r≠0) (h2:ab b r=s) (hs:s≠0) (h3:ab r s=0) (c1:Fn Tryz.prog 82 [ku a,ku b] [ku (ab a b)]) (c2:Fn Tryz.prog 82 [ku b,ku r] [ku (ab b r)]) (c3:Fn Tryz.prog 82 [ku r,ku s] [ku (ab r s)])
  (sa:aa a<=3) (sb:aa b<=3) (sr:aa r<=3) (ss:aa s<=3) (fl:FB 109 (lc b)) (fr:FB 109 (lc r)) (fs:FB 109 (lc s)) :
  Fn Tryz.prog 35 [ku a,ku b] [iK (if aa s=1 then sgR b r (sgR a b (Alg.pw (lc b) (aa a-aa r))*Alg.pw (lc r) (aa b-aa s))*Alg.pw (lc s) (aa r-1)else 0)]:=by
 have he:=eu3 hb h hr h2 hs h3;have:=Pj (L:=[(a,b),(b,r),(r,s)]) (m:=2) (z:=(r,s)) ha hb he rfl aw rfl (fun x hx=>by
  simp at hx;rcases hx with rfl|rfl|rfl
  ·exact⟨c1,sa,sb,fl⟩
  ·exact⟨c2,sb,sr,fr⟩
  ·exact⟨c3,sr,ss,fs⟩)
 have o1:jR a b 1=sgR a b (Alg.pw (lc b) (aa a-aa r)):=by
  rw[iu (x:=(a,b)) (by rw[he];rfl)];show sgR a b (1*_)=_;rw[one_mul,h]
 have o2:jR a b 2=sgR b r (sgR a b (Alg.pw (lc b) (aa a-aa r))*Alg.pw (lc r) (aa b-aa s)):=by
  rw[iu (x:=(b,r)) (by rw[he];rfl),o1];show sgR b r (_*Alg.pw (lc r) (aa b-aa (ab b r)))=_;rw[h2]
 rwa [tN,o2]at this
end Go.AM
