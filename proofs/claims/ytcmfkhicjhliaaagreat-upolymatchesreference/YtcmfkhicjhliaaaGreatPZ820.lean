/- Lemmas, part 21 of 23. No condition. -/
import Derived.Test.YtcmfkhicjhliaaaGreatPZ819
set_option maxRecDepth 65536
set_option linter.unusedSimpArgs false
set_option linter.unusedVariables false
set_option linter.unusedSectionVars false
namespace Go.AM
open Alg
open Go.Proofs
open Classical
theorem sK {f:Nat->KQ} {n:Nat} {r:KP} (h1:∀ i,i<n->f i=r.c i) (h2:aa r<=n):dF ((List.range n).map f)=aj r:=by
 rw[fX];congr 1;refine Alg.P.ext fun i=>?_;rw[qv];by_cases h:i<n
 ·rw[<-h1 i h];simp[List.getD,h]
 ·rw[aP (by omega:aa r<=i)];simp[List.getD,h]
theorem gH (f:Nat->KQ) (n:Nat):((List.range n).map f).length=n:=au
theorem mO (f:Nat->KQ) (n:Nat):(List.range (n+1)).map f=(List.range n).map f++[f n]:=by rw[List.range_succ,List.map_append];rfl
theorem Dx (p:KP) (i:Nat):(if((i:Nat):Int)<0 then(0:KQ)else(aj p).getD ((i:Nat):Int).toNat 0)=p.c i:=by
 rw[if_neg aw,Int.toNat_natCast,lW]
theorem Jq {p q:KP} {w v:Nat} (hp:PW w p) (hq:PW v q) (hb:w+v+1<=1000) (hs:aa p<=1000) (hs':aa q<=1000):Fn Tryz.prog 21 [ku p,ku q] [ku (p+q)]:=by
 have lp:=aZ p;have lq:=aZ q;refine aJ (fn:=Tryz.f21) ?_;simp -dsimp only[go_sem];refine cf 5 7 2 (rs:=[]) rfl au ?_;refine br [(5,6),(8,29)] [] [(7,7),(29,29)] (fun n τ β ε=>∃ i:Nat,n=max (aa p) (aa q)-i/\i<=max (aa p) (aa q)/\τ 6 = .i (iN i)/\Own 2 (((List.range i).map fun j=>p.c j+q.c j).map kr) 5 7 τ ε)
  (fun e τ β ε=>e = .exit 0/\Own 2 (((List.range (max (aa p) (aa q))).map fun j=>p.c j+q.c j).map kr) 5 7 τ ε) (max (aa p) (aa q)) ?_ ?_ ?_
 ·exact⟨0,aw,aw,rfl,Own.mk (g:=1) (mm:=false) aw rfl rfl rfl⟩
 ·rintro n τ β ε π hK hKB hKE ⟨i,hn,hi,h6,g,mm,hg,h5,h7⟩;rw[az,gH]at h5;have k0:τ 0 = .i (ku p):=(hK 0 rfl).trans rfl;have k1:τ 1 = .i (ku q):=(hK 1 rfl).trans rfl;by_cases hlt:i<max (aa p) (aa q)
  ·have go:∀ K:Prop,K->K:=fun _ h=>h;have c1:=oO (aj p) (i:Int);have c2:=oO (aj q) (i:Int);rw[Dx]at c1 c2;by_cases hip:i<aa p
   ·have dA:decide ((i:Int)<(aa p:Int))=true:=aF aw;simp -dsimp only[go_sem,h6,k0,k1,dA,az,lp,lq,h5];refine aK c1 ?_;simp -dsimp only[go_sem,h6,k0,k1];refine aK c2 ?_;simp -dsimp only[go_sem,h6,k0,k1];refine ao (uN ((hp i).mono aw) ((hq i).mono aw) (((hp i).add (hq i)).mono aw)) rfl ?_;simp -dsimp only[go_sem,h5,h7,hg,h6,az,List.length_range]
    repeat(refine And.intro aw ?_)
    refine bc (max (aa p) (aa q)-(i+1)) 5 29 7 aw rfl rfl aw aH ⟨(aA hK),hKB,(aA hKE),i+1,rfl,aw,rfl,?_⟩;exact Own.mk2 (Nat.succ_pos _) (by simp -dsimp only[go_sem];rfl) (by simp -dsimp only[go_sem];rfl) au (by rw[mO,List.map_append];rfl)
   ·have dA:decide ((i:Int)<(aa p:Int))=false:=aG aw;have dB:decide ((i:Int)<(aa q:Int))=true:=aF aw;simp -dsimp only[go_sem,h6,k0,k1,dA,dB,az,lp,lq,h5];refine aK c1 ?_;simp -dsimp only[go_sem,h6,k0,k1];refine aK c2 ?_;simp -dsimp only[go_sem,h6,k0,k1];refine ao (uN ((hp i).mono aw) ((hq i).mono aw) (((hp i).add (hq i)).mono aw)) rfl ?_;simp -dsimp only[go_sem,h5,h7,hg,h6,az,List.length_range]
    repeat(refine And.intro aw ?_)
    refine bc (max (aa p) (aa q)-(i+1)) 5 29 7 aw rfl rfl aw aH ⟨(aA hK),hKB,(aA hKE),i+1,rfl,aw,rfl,?_⟩;exact Own.mk2 (Nat.succ_pos _) (by simp -dsimp only[go_sem];rfl) (by simp -dsimp only[go_sem];rfl) au (by rw[mO,List.map_append];rfl)
  ·obtain rfl:i=max (aa p) (aa q):=aw;have dA:decide (((max (aa p) (aa q):Nat):Int)<(aa p:Int))=false:=aG aw;have dB:decide (((max (aa p) (aa q):Nat):Int)<(aa q:Int))=false:=aG aw;simp -dsimp only[go_sem,h6,k0,k1,dA,dB,az,lp,lq];exact⟨(aA hK),hKB,hKE,Own.mk hg h5 au h7⟩
 ·rintro e τ β ε π hK hKB hKE ⟨rfl,g,mm,hg,h5,h7⟩;rw[az,gH]at h5;refine⟨_,bA.freeze _ 7,?_⟩;simp -dsimp only[go_sem,h5,h7,hg];refine aO (args':=[kl ((List.range (max (aa p) (aa q))).map fun j=>p.c j+q.c j)]) (by rw[List.take_of_length_le au]) (nu _ (by rw[gH];omega)) ?_;simp -dsimp only[go_sem];rw[sK (r:=p+q) (fun i _=>(cj p q i).symm) (dh aw aw)]
theorem si {p:KP} {c:KQ} {w v:Nat} (hp:PW w p) (hc:FB v c) (hb:w+v<=1000) (hs:aa p<=1000):Fn Tryz.prog 36 [ku p,iK c] [ku (p*an c)]:=by
 have lp:=aZ p;refine aJ (fn:=Tryz.f36) ?_;simp -dsimp only[go_sem];refine cf 5 7 2 (rs:=[]) rfl au ?_;refine br [(5,6),(8,22)] [] [(7,7),(22,22)] (fun n τ β ε=>∃ i:Nat,n=aa p-i/\i<=aa p/\τ 6 = .i (iN i)/\Own 2 (((List.range i).map fun j=>p.c j*c).map kr) 5 7 τ ε)
  (fun e τ β ε=>e = .exit 0/\Own 2 (((List.range (aa p)).map fun j=>p.c j*c).map kr) 5 7 τ ε) (aa p) ?_ ?_ ?_
 ·exact⟨0,aw,aw,rfl,Own.mk (g:=1) (mm:=false) aw rfl rfl rfl⟩
 ·rintro n τ β ε π hK hKB hKE ⟨i,hn,hi,h6,g,mm,hg,h5,h7⟩;rw[az,gH]at h5;have k0:τ 0 = .i (ku p):=(hK 0 rfl).trans rfl;have k3:τ 3 = .bp 3 1 0:=(hK 3 rfl).trans rfl;have b3:β 3=⟨1,kr c⟩:=(hKB 3 rfl).trans rfl;by_cases hlt:i<aa p
  ·have dA:decide ((i:Int)<(aa p:Int))=true:=aF aw;have gp:(aj p)[i]?=some (p.c i):=by rw[aD aw,fB]
   simp -dsimp only[go_sem,h6,k0,k3,dA,az,lp,h5,b3];refine ap 10 [] true false ?_;simp -dsimp only[go_sem,h6,k0,k3,dA,az,lp,h5,b3];refine aQ gp ?_;simp -dsimp only[go_sem,h6,k0,k3,dA,az,lp,h5,b3,Int.reduceToNat,Int.reduceLE,aC];refine ao (uH ((hp i).mono aw) (hc.mono aw) (((hp i).mul hc).mono aw)) rfl ?_;simp -dsimp only[go_sem,h5,h7,hg,h6,az,List.length_range]
   repeat(refine And.intro aw ?_)
   refine bc (aa p-(i+1)) 5 22 7 aw rfl rfl aw aH ⟨(aA hK),hKB,(aA hKE),i+1,rfl,aw,rfl,?_⟩;exact Own.mk2 (Nat.succ_pos _) (by simp -dsimp only[go_sem];rfl) (by simp -dsimp only[go_sem];rfl) au (by rw[mO,List.map_append];rfl)
  ·obtain rfl:i=aa p:=aw;have dA:decide ((aa p:Int)<(aa p:Int))=false:=aG aw;simp -dsimp only[go_sem,h6,k0,dA,az,lp];exact⟨(aA hK),hKB,hKE,Own.mk hg h5 au h7⟩
 ·rintro e τ β ε π hK hKB hKE ⟨rfl,g,mm,hg,h5,h7⟩;rw[az,gH]at h5;refine⟨_,bA.freeze _ 7,?_⟩;simp -dsimp only[go_sem,h5,h7,hg];refine aO (args':=[kl ((List.range (aa p)).map fun j=>p.c j*c)]) (by rw[List.take_of_length_le au]) (nu _ (by rw[gH];omega)) ?_;simp -dsimp only[go_sem];rw[sK (r:=p*an c) (fun i _=>(nJ ..).symm) (cI fun i hi=>by rw[nJ,aP hi,zero_mul])]
theorem Qv {p q:KP} {w v:Nat} (hp:PW w p) (hq:PW v q) (hb:w+v+1<=1000) (hs:aa p<=1000) (hs':aa q<=1000):Fn Tryz.prog 51 [ku p,ku q] [ku (p-q)]:=by
 have hn:PW v (-q):=fun i=>(hq i).neg;have sc:=si (c:=kn (-1)) hq (iY (w:=0) aH) aw hs';rw[jv]at sc;have ad:=Jq hp hn hb hs (by rw[kt];exact hs');rw[<-sub_eq]at ad;refine aJ (fn:=Tryz.f51) ?_;simp -dsimp only[go_sem];refine aK (fD (-1) aH) ?_;simp -dsimp only[go_sem];refine ao sc rfl ?_;simp -dsimp only[go_sem];refine aK ad ?_;simp -dsimp only[go_sem]
theorem OU {p:KP} {w:Nat} (hp:PW w p) (hb:w+10<=1000) (hs:aa p<=1000):Fn Tryz.prog 32 [ku p] [ku (der p)]:=by
 have lp:=aZ p;refine aJ (fn:=Tryz.f32) ?_;simp -dsimp only[go_sem];refine cf 3 5 2 (rs:=[]) rfl au ?_;refine br [(3,4),(6,21)] [] [(5,5),(21,21)] (fun n τ β ε=>∃ i:Nat,n=aa p-i/\(i=0\/i+1<=aa p)/\τ 4 = .i (iN (i+1:Nat))/\Own 2 (((List.range i).map fun j=>kn (j+1:Nat)*p.c (j+1)).map kr) 3 5 τ ε)
  (fun e τ β ε=>e = .exit 0/\Own 2 (((List.range (aa p-1)).map fun j=>kn (j+1:Nat)*p.c (j+1)).map kr) 3 5 τ ε) (aa p) ?_ ?_ ?_
 ·exact⟨0,aw,.inl rfl,rfl,Own.mk (g:=1) (mm:=false) aw rfl rfl rfl⟩
 ·rintro n τ β ε π hK hKB hKE ⟨i,hn,hi,h4,g,mm,hg,h3,h5⟩;rw[az,gH]at h3;have k0:τ 0 = .i (ku p):=(hK 0 rfl).trans rfl;by_cases hlt:i+1<aa p
  ·have dA:decide (((i+1:Nat):Int)<(aa p:Int))=true:=aF aw;have gp:(aj p)[i+1]?=some (p.c (i+1)):=by rw[aD aw,fB]
   have hw:FB 10 (kn ((i+1:Nat):Int)):=iY (by rw[show(2:Nat) ^ 10=1024 from rfl];omega);simp -dsimp only[go_sem,h4,k0,dA,az,lp,h3];refine ap 11 [] true false ?_;simp -dsimp only[go_sem,h4,k0,dA,az,lp,h3];refine aK (fD ((i+1:Nat):Int) aw) ?_;simp -dsimp only[go_sem,h4,k0,dA,az,lp,h3];refine aQ gp ?_;simp -dsimp only[go_sem,h4,k0,dA,az,lp,h3];refine aO (args':=[iK (kn ((i+1:Nat):Int)),iK (p.c (i+1))]) rfl (uH (hw.mono aw) ((hp _).mono aw) ((hw.mul (hp _)).mono aw)) ?_;simp -dsimp only[go_sem,h3,h5,hg,h4,az,List.length_range]
   repeat(refine And.intro aw ?_)
   refine bc (aa p-(i+1)) 3 21 5 aw rfl rfl aw aH ⟨(aA hK),hKB,(aA hKE),i+1,rfl,aw,rfl,?_⟩;exact Own.mk2 (Nat.succ_pos _) (by simp -dsimp only[go_sem];rfl) (by simp -dsimp only[go_sem];rfl) au (by rw[mO,List.map_append];rfl)
  ·have dA:decide (((i+1:Nat):Int)<(aa p:Int))=false:=aG aw;have ei:aa p-1=i:=aw;simp -dsimp only[go_sem,h4,k0,dA,az,lp];rw[ei];exact⟨(aA hK),hKB,hKE,Own.mk hg h3 au h5⟩
 ·rintro e τ β ε π hK hKB hKE ⟨rfl,g,mm,hg,h3,h5⟩;rw[az,gH]at h3;refine⟨_,bA.freeze _ 5,?_⟩;simp -dsimp only[go_sem,h3,h5,hg];refine aO (args':=[kl ((List.range (aa p-1)).map fun j=>kn (j+1:Nat)*p.c (j+1))]) (by rw[List.take_of_length_le au]) (nu _ (by rw[gH];omega)) ?_;simp -dsimp only[go_sem];have ht:=sK (r:=der p) (f:=fun j=>kn ((j+1:Nat):Int)*p.c (j+1)) (n:=aa p-1) (fun i _=>by rw[jS,Ds]) (cI fun i hi=>by rw[jS,aP aw,mul_zero]);rw[ht]
theorem OR:Fn Tryz.prog 73 [iN 0] [iK 0]:=by
 have:=fD 0 aH;rwa [show kz 0=0 from fi]at this
theorem L3 {p:KP} (n:Nat) (hn:n<=1000) (hs:aa p<=1000):Fn Tryz.prog 71 [ku p,iN n] [ku (mon n 1*p)]:=by
 have lp:=aZ p;refine aJ (fn:=Tryz.f71) ?_;simp -dsimp only[go_sem];refine cf 5 7 2 (rs:=[]) rfl au ?_;refine br [(5,6),(8,16)] [] [(7,7),(16,16)] (fun m τ β ε=>∃ i:Nat,m=n-i/\i<=n/\τ 6 = .i (iN i)/\Own 2 (((List.range i).map fun _=>(0:KQ)).map kr) 5 7 τ ε)
  (fun e τ β ε=>e = .exit 0/\Own 2 (((List.range n).map fun _=>(0:KQ)).map kr) 5 7 τ ε) n ?_ ?_ ?_
 ·exact⟨0,aw,aw,rfl,Own.mk (g:=1) (mm:=false) aw rfl rfl rfl⟩
 ·rintro m τ β ε π hK hKB hKE ⟨i,hm,hi,h6,g,mm,hg,h5,h7⟩;rw[az,gH]at h5;have k1:τ 1 = .i (iN n):=(hK 1 rfl).trans rfl;by_cases hlt:i<n
  ·have dA:decide ((i:Int)<(n:Int))=true:=aF aw;simp -dsimp only[go_sem,h6,k1,dA,h5];refine aK OR ?_;simp -dsimp only[go_sem,h5,h7,hg,h6,az,List.length_range]
   repeat(refine And.intro aw ?_)
   refine bc (n-(i+1)) 5 16 7 aw rfl rfl aw aH ⟨(aA hK),hKB,(aA hKE),i+1,rfl,aw,rfl,?_⟩;exact Own.mk2 (Nat.succ_pos _) (by simp -dsimp only[go_sem];rfl) (by simp -dsimp only[go_sem];rfl) au (by rw[mO,List.map_append];rfl)
  ·obtain rfl:i=n:=aw;have dA:decide ((i:Int)<(i:Int))=false:=aG aw;simp -dsimp only[go_sem,h6,k1,dA];exact⟨(aA hK),hKB,hKE,Own.mk hg h5 au h7⟩
 ·rintro e τ β ε π hK hKB hKE ⟨rfl,g,mm,hg,h5,h7⟩;rw[az,gH]at h5;have k0:τ 0 = .i (ku p):=(hK 0 rfl).trans rfl;refine⟨_,bA.refl _,?_⟩;simp -dsimp only[go_sem,h5,h7,hg,k0,az,List.length_range,lp];refine⟨aw,?_⟩;refine aO (args':=[kl ((List.range n).map (fun _=>(0:KQ))++aj p)]) (by rw[List.take_of_length_le (by simp[lp]),<-List.map_append]) (nu _ (by simp[lp];omega)) ?_;simp -dsimp only[go_sem];have e:ac ((List.range n).map (fun _=>(0:KQ))++aj p)=mon n 1*p:=Alg.P.ext fun i=>by
   rw[qv,cy,List.getD_eq_getElem?_getD];by_cases h:n<=i
   ·rw[if_pos h,one_mul,List.getElem?_append_right (by simp;exact h),<-lW,List.getD_eq_getElem?_getD];simp
   ·rw[if_neg h,List.getElem?_append_left ar];simp[show i<n by omega]
  rw[fX,e]
theorem OT (p:KP) (hp:p≠0) (hs:aa p<=1000):Fn Tryz.prog 79 [ku p] [iK (lc p)]:=by
 have lp:=aZ p;have h0:=aV hp;have c1:=oO (aj p) ((aa p-1:Nat):Int);rw[Dx]at c1;have ei:(aa p:Int)-1=((aa p-1:Nat):Int):=aw;refine aJ (fn:=Tryz.f79) ?_;simp -dsimp only[go_sem,az,lp,ei]
 repeat(refine And.intro aw ?_)
 refine aK c1 ?_;simp -dsimp only[go_sem];rfl
theorem L4 {p:KP} {w:Nat} (hp:PW w p) (hb:2*w<=1000) (hs:aa p<=1000):Fn Tryz.prog 26 [ku p] [ku (mn p)]:=by
 have lp:=aZ p;refine aJ (fn:=Tryz.f26) ?_;by_cases h0:p=0
 ·have e1:decide ((aa p:Int)=0)=true:=aF (by rw[h0,aM.2 rfl];rfl);simp -dsimp only[go_sem,az,lp,e1];rw[h0,lI,gh];rfl
 ·have h1:=aV h0;have e1:decide ((aa p:Int)=0)=false:=aG aw;have hlw:FB w (Alg.inv (lc p)):=(hp _).inv (bP h0);have ov:=wl (f:=kn 1) (g:=lc p) ((iY (w:=0) aH).mono aw) ((hp _).mono aw) (bP h0) (by rw[ff,one_mul];exact hlw.mono aw);rw[ff,one_mul]at ov;have sc:=si hp hlw aw hs;rw[mul_comm]at sc;simp -dsimp only[go_sem,az,lp,e1];refine aK (fD 1 aH) ?_;simp -dsimp only[go_sem];refine ao (OT p h0 hs) rfl ?_;simp -dsimp only[go_sem];refine ao ov rfl ?_;simp -dsimp only[go_sem];refine ao sc rfl ?_;simp -dsimp only[go_sem];rfl
theorem Pt (p:KP) (n:Nat):aa (tk p n)<=n:=cI fun i hi=>by rw[ER,if_neg aw]
theorem PR (n:Nat) (c:KQ):mon n 1*an c=mon n c:=by
 rw[<-du,dS,Nat.add_zero,one_mul]
theorem Qw {p q:KP} {w v:Nat} (hp:PW w p) (hq:PW v q) (hb:aa q*(v+w+1)<=1000) (hs:aa p+aa q<=1000):Fn Tryz.prog 19 [ku p,ku q] [ku (p*q)]:=by
 have lq:=aZ q;refine aJ (fn:=Tryz.f19) ?_;simp -dsimp only[go_sem];refine nL (bA.imm _ 5 (x:=kl []) rfl) ?_;refine be [(5,6),(8,23)] [] [] (fun n τ β ε=>∃ i:Nat,n=aa q-i/\i<=aa q/\τ 6 = .i (iN i)/\τ 5 = .i (ku (tk q i*p)))
  (fun e τ β ε=>e = .exit 0/\τ 5 = .i (ku (p*q))) (aa q) ?_ ?_ ?_
 ·exact⟨0,aw,aw,rfl,by simp -dsimp only[go_sem];rw[lu,zero_mul,gh]⟩
 ·rintro n τ β ε π hK hKB hKE ⟨i,hn,hi,h6,h5⟩;have k0:τ 0 = .i (ku p):=(hK 0 rfl).trans rfl;have k1:τ 1 = .i (ku q):=(hK 1 rfl).trans rfl;by_cases hlt:i<aa q
  ·have dA:decide ((i:Int)<(aa q:Int))=true:=aF aw;have gq:(aj q)[i]?=some (q.c i):=by rw[aD aw,fB]
   have hm:(i+1)*(v+w+1)<=aa q*(v+w+1):=Nat.mul_le_mul_right _ aw;have hm1:1*(v+w+1)<=aa q*(v+w+1):=Nat.mul_le_mul_right _ aw;have e1:mon i 1*(p*an (q.c i))=mon i (q.c i)*p:=by rw[mul_comm p,<-mul_assoc,PR]
   have e2:tk q i*p+mon i (q.c i)*p=tk q (i+1)*p:=by rw[nG,add_mul]
   have s1:=bg (tk q i) p;have s2:=Pt q i;have s3:aa (p*an (q.c i))<=aa p:=cI fun j hj=>by rw[nJ,aP hj,zero_mul]
   have s4:aa (mon i (q.c i)*p)<=i+aa p:=cI fun j hj=>by
    rw[cy];split
    ·rw[aP (p:=p) aw,mul_zero]
    ·rfl
   have ad:=Jq (CT hq hp i) (vD (i:=i) (hq i) hp) (by rw[Nat.succ_mul]at hm;omega) aw aw;rw[e2]at ad;have ra:=L3 (p:=p*an (q.c i)) i aw aw;rw[e1]at ra;simp -dsimp only[go_sem,h6,h5,k0,k1,dA,az,lq];refine aQ gq ?_;simp -dsimp only[go_sem,h6,h5,k0,k1];refine ao (si hp (hq i) aw aw) rfl ?_;simp -dsimp only[go_sem,h6,h5,k0,k1];refine aK ra ?_;simp -dsimp only[go_sem,h6,h5,k0,k1];refine aK ad ?_;simp -dsimp only[go_sem,h6]
   repeat(refine And.intro aw ?_)
   exact again (aa q-(i+1)) aw ⟨(aA hK),hKB,hKE,i+1,rfl,aw,rfl,rfl⟩
  ·obtain rfl:i=aa q:=aw;have dA:decide ((aa q:Int)<(aa q:Int))=false:=aG aw;rw[sM (ay _),mul_comm]at h5;simp -dsimp only[go_sem,h6,k1,dA,az,lq];exact⟨(aA hK),hKB,hKE,h5⟩
 ·rintro e τ β ε π hK hKB hKE ⟨rfl,h5⟩;simp -dsimp only[go_sem,h5]
theorem Jp {p q:KP} {w v:Nat} (hp:PW w p) (hq:PW v q) (hw:w<=1000) (hv:v<=1000) (hs:aa p<=1000):Fn Tryz.prog 15 [ku p,ku q] [iB (decide (p=q))]:=by
 have:=uF (aj p) (aj q) (by rw[aZ];omega) (hp.fw hw) (hq.fw hv);have e:decide (aj p=aj q)=decide (p=q):=by rw[decide_eq_decide];exact⟨IX,fun h=>by rw[h]⟩
 rwa [e]at this
def wR (w v:Nat):Nat->Nat
 | 0=>w
 | n+1=>2*wR w v n+2*v+1
theorem Ai {c:KQ} {w:Nat} (hc:FB w c) (hw:w<=1000):Fn Tryz.prog 22 [iK c] [ku (ak-an c)]:=by
 have e:aj (ak-an c)=[-c,1]:=by
  refine(DN (l:=[-c,1]) (fun i hi=>?_) (fun i hi=>?_) (fun h=>?_)).symm
  ·match i,hi with
   | 0,_=>show -c=(0:KQ)-c;rw[sub_eq,zero_add]
   | 1,_=>show(1:KQ)=1-0;rw[sub_zero]
  ·match i,hi with
   | i+2,_=>show(0:KQ)-0=0;rw[sub_zero]
  ·exact one_ne
 refine aJ (fn:=Tryz.f22) ?_;simp -dsimp only[go_sem];refine ao (Af (hc.mono hw)) rfl ?_;simp -dsimp only[go_sem];refine aK (fD 1 aH) ?_;simp -dsimp only[go_sem];have e2:ku (ak-an c)=kl [-c,1]:=by show kl (aj _)=_;rw[e]
 rw[e2,show kz 1=1 from ff];rfl
noncomputable def hr (p:KP) (c:KQ):Nat->KQ
 | 0=>0
 | n+1=>hr p c n*c+p.c (aa p-(n+1))
theorem L0 {p:KP} {w:Nat} (hp:PW w p) (hw:w<=1000) (hs:aa p<=1000):Fn Tryz.prog 20 [ku p] [iB true]:=by
 have lp:=aZ p;refine aJ (fn:=Tryz.f20) ?_;simp -dsimp only[go_sem];refine be [(2,15)] [] [] (fun m τ β ε=>∃ i:Nat,m=aa p-i/\i<=aa p/\τ 3 = .i (iN i)) (fun e τ β ε=>e = .exit 0) (aa p) ?_ ?_ ?_
 ·exact⟨0,aw,aw,rfl⟩
 ·rintro m τ β ε π hK hKB hKE ⟨i,hm,hi,h3⟩;have k0:τ 0 = .i (ku p):=(hK 0 rfl).trans rfl;by_cases hlt:i<aa p
  ·have dA:decide ((i:Int)<(aa p:Int))=true:=aF aw;have gp:(aj p)[i]?=some (p.c i):=by rw[aD aw,fB]
   simp -dsimp only[go_sem,h3,k0,dA,az,lp];refine aQ gp ?_;simp -dsimp only[go_sem,h3,k0];refine ao (Cv ((hp i).mono hw)) rfl ?_;simp -dsimp only[go_sem,h3]
   repeat(refine And.intro aw ?_)
   exact again (aa p-(i+1)) aw ⟨(aA hK),hKB,hKE,i+1,rfl,aw,rfl⟩
  ·have dA:decide ((i:Int)<(aa p:Int))=false:=aG aw;simp -dsimp only[go_sem,h3,k0,dA,az,lp];exact⟨(aA hK),hKB,hKE⟩
 ·rintro e τ β ε π hK hKB hKE rfl;have k0:τ 0 = .i (ku p):=(hK 0 rfl).trans rfl;by_cases h0:aa p=0
  ·have d0:decide ((aa p:Int)=0)=true:=aF aw;simp -dsimp only[go_sem,k0,az,lp,d0]
  ·have d0:decide ((aa p:Int)=0)=false:=aG aw;have ei:(aa p:Int)-1=((aa p-1:Nat):Int):=aw;have gp:(aj p)[aa p-1]?=some (p.c (aa p-1)):=by rw[aD aw,fB]
   have e0:decide (p.c (aa p-1)=0)=false:=aG (j7 h0);simp -dsimp only[go_sem,k0,az,lp,d0,ei]
   repeat(refine And.intro aw ?_)
   refine aQ gp ?_;simp -dsimp only[go_sem];refine aO (args':=[iK (p.c (aa p-1))]) rfl (qM _) ?_;simp -dsimp only[go_sem,e0]
theorem K8 {x m:Tm} {L:List Tm} (h:0<cm x.1 m.1):n7 (x::L) m=x::n7 L m:=by
 unfold n7;rw[atR,if_pos h];rfl
theorem K7 {x m:Tm} {L:List Tm} (h:¬ 0<cm x.1 m.1):n7 (x::L) m=(if(qt m (x::L)).1≠0/\cP m.1 then[(m.1,(qt m (x::L)).1)]else[])++(qt m (x::L)).2:=by
 unfold n7;rw[atR,if_neg h];rfl
theorem A2 {e:Ex} (h:Uv1 e):cP e:=by unfold Uv1 at h;unfold cP;omega
theorem Il {m:Tm} (hm:Uv1 m.1):∀{L:List Tm},Cn L->Cn (n7 L m)/\toP (n7 L m)=toP L+mon m.1.a.toNat m.2/\∀ t∈n7 L m,t.1=m.1\/∃ u∈L,u.1=t.1
 | [],_=>by
  have e:n7 [] m=if m.2=0 then[]else[m]:=by
   show(if m.2≠0/\cP m.1 then[(m.1,m.2)]else[])++[]=_
   by_cases h:m.2=0<;>simp[h,A2 hm]
  rw[e];by_cases h:m.2=0
  ·rw[if_pos h,h,jw,cF,add_zero];exact⟨⟨List.Pairwise.nil,au,by intro t ht;simp at ht⟩,rfl,au⟩
  ·rw[if_neg h,a8,cF,add_zero,zero_add];exact⟨⟨List.pairwise_singleton _ _,by simpa using h,by intro t ht;simp at ht;subst ht;exact hm⟩,rfl,au⟩
 | x::L,hc=>by
  have hx:=hc.uv x au;by_cases h:0<cm x.1 m.1
  ·rw[K8 h];obtain⟨i1,i2,i3⟩:=Il hm (dM hc);refine⟨⟨List.pairwise_cons.2 ⟨fun t ht=>?_,i1.srt⟩,fun t ht=>?_,fun t ht=>?_⟩,?_,fun t ht=>?_⟩
   ·rcases i3 t ht with e|⟨u,hu,e⟩
    ·rw[e];exact h
    ·rw[<-e];exact(List.pairwise_cons.1 hc.srt).1 u hu
   ·rcases List.mem_cons.1 ht with rfl|ht
    ·exact hc.nz _ au
    ·exact i1.nz t ht
   ·rcases List.mem_cons.1 ht with rfl|ht
    ·exact hx
    ·exact i1.uv t ht
   ·rw[a8,a8,i2,add_assoc]
   ·rcases List.mem_cons.1 ht with rfl|ht
    ·exact .inr ⟨_,au,rfl⟩
    ·rcases i3 t ht with e|⟨u,hu,e⟩
     ·exact .inl e
     ·exact .inr ⟨u,by simp[hu],e⟩
  ·rw[K7 h];by_cases he:x.1=m.1
   ·rw[show qt m (x::L)=(m.2+x.2,L)from if_pos he];have key:toP (x::L)+mon m.1.a.toNat m.2=mon m.1.a.toNat (m.2+x.2)+toP L:=by
     rw[a8,he,show mon m.1.a.toNat (m.2+x.2)=mon m.1.a.toNat m.2+mon m.1.a.toNat x.2 from xe _ _ _];exact ring [mon m.1.a.toNat x.2,mon m.1.a.toNat m.2,toP L]
    by_cases h0:m.2+x.2=0
    ·simp only[h0,ne_eq,not_true,false_and,if_false,List.nil_append];refine⟨dM hc,?_,fun t ht => .inr ⟨t,by simp[ht],rfl⟩⟩;rw[key,h0,jw,zero_add]
    ·simp only[ne_eq,h0,not_false_eq_true,A2 hm,and_self,if_true,List.singleton_append];refine⟨⟨List.pairwise_cons.2 ⟨fun t ht=>?_,(dM hc).srt⟩,fun t ht=>?_,fun t ht=>?_⟩,?_,fun t ht=>?_⟩
     ·show 0<cm m.1 t.1;rw[<-he];exact(List.pairwise_cons.1 hc.srt).1 t ht
     ·rcases List.mem_cons.1 ht with rfl|ht
      ·exact h0
      ·exact(dM hc).nz t ht
     ·rcases List.mem_cons.1 ht with rfl|ht
      ·exact hm
      ·exact(dM hc).uv t ht
     ·rw[key,a8]
     ·rcases List.mem_cons.1 ht with rfl|ht
      ·exact .inl rfl
      ·exact .inr ⟨t,by simp[ht],rfl⟩
   ·rw[show qt m (x::L)=(m.2,x::L)from if_neg he];have hlt:0<cm m.1 x.1:=by
     have h1:cm x.1 m.1≠0:=fun e=>he ((jz _ _).1 e);have h2:=nT x.1 m.1;omega
    by_cases h0:m.2=0
    ·simp only[h0,ne_eq,not_true,false_and,if_false,List.nil_append];exact⟨hc,by rw[jw,add_zero],fun t ht => .inr ⟨t,ht,rfl⟩⟩
    ·simp only[ne_eq,h0,not_false_eq_true,A2 hm,and_self,if_true,List.singleton_append];refine⟨⟨List.pairwise_cons.2 ⟨fun t ht=>?_,hc.srt⟩,fun t ht=>?_,fun t ht=>?_⟩,?_,fun t ht=>?_⟩
     ·show 0<cm m.1 t.1;rcases List.mem_cons.1 ht with rfl|ht
      ·exact hlt
      ·refine(jG hm (hc.uv t (by simp[ht]))).2 ?_;have h3:=(jG hm hx).1 hlt;have h4:=rB hc t ht;omega
     ·rcases List.mem_cons.1 ht with rfl|ht
      ·exact h0
      ·exact hc.nz t ht
     ·rcases List.mem_cons.1 ht with rfl|ht
      ·exact hm
      ·exact hc.uv t ht
     ·rw[a8,add_comm]
     ·rcases List.mem_cons.1 ht with rfl|ht
      ·exact .inl rfl
      ·exact .inr ⟨t,ht,rfl⟩
theorem Ob (p:PQ) {m:Tm} (hm:Uv1 m.1):n7 (U p) m=U (p+mon m.1.a.toNat m.2):=by
 obtain⟨h1,h2,_⟩:=Il hm (ja p);exact vi h1 (by rw[h2,gw])
theorem tG:∀(L:List Tm) (p:PQ),Uv L->L.foldl n7 (U p)=U (p+toP L)
 | [],p,_=>by rw[cF,add_zero];rfl
 | t::L,p,h=>by
  rw[List.foldl_cons,Ob p (h t au),tG L _ (fun u hu=>h u (by simp[hu])),a8,add_assoc]
theorem Dh {L:List Tm} (h:Uv L):mY L=U (toP L):=by
 have:=tG L 0 h;rw[cp,zero_add]at this;exact this
def Sml (t:Tm):Prop:=Uv1 t.1/\t.1.a<=2/\t.2.num.natAbs<=2 ^ 8/\t.2.den<=2 ^ 8
theorem Mx:∀{L:List Tm},(∀ t∈L,Sml t)->am (9*L.length) (toP L)/\aa (toP L)<=3
 | [],_=>⟨am.zero _,by rw[cF,aM.2 rfl];omega⟩
 | t::L,h=>by
  obtain⟨h1,h2,h3,h4⟩:=h t au;obtain⟨i1,i2⟩:=Mx (L:=L) fun u hu=>h u (by simp[hu]);rw[a8];unfold Uv1 at h1;refine⟨((am.mon _ h3 h4).add i1).mono (by simp only[List.length_cons];omega),dh (cI fun i hi=>by rw[ce,if_neg aw]) i2⟩
theorem F8 {L:List Tm} (h:∀ t∈L,Sml t) (hl:L.length<=100):Fn Tryz.prog 88 [iM L] [iUp (toP L)]:=by
 have hu:Uv L:=fun t ht=>(h t ht).1;have:=Ah L aw (fun t ht=>ia (h t ht).2.2.1 (h t ht).2.2.2 aw) fun i hi=>by
  have hu':Uv (L.take i):=fun t ht=>hu t (List.mem_of_mem_take ht);obtain⟨s1,s2⟩:=Mx (L:=L.take i) fun t ht=>h t (List.mem_of_mem_take ht);rw[Dh hu'];have hl':(L.take i).length<=100:=by simp;omega
  exact⟨HB.qb s1 aw,by have:=dc (toP (L.take i));omega⟩
 rwa [Dh hu]at this
structure T5 where
 a:Int
 b:Int
 c:Int
 d:Int
 e:Int
def T5.row (t:T5):List C:=[.v (.int .i8 t.a),.v (.int .i8 t.b),.v (.int .i8 t.c),.v (.int .i8 t.d),.v (.int .i8 t.e)]
def T5.ok (t:T5):Prop:=(-128<=t.a/\t.a<128) /\ -128<=t.e/\t.e<128
def T5.tm (t:T5):Tm:=(⟨t.a % 3,0,0,0⟩,(t.e:Rat))
abbrev tl (l:List T5):IV := .c (.lst (l.map T5.row))
theorem T5.sml {t:T5} (h:t.ok):Sml t.tm:=by
 unfold T5.ok at h;refine⟨⟨?_,rfl,rfl,rfl⟩,?_,?_,?_⟩
 ·show 0<=t.a % 3;omega
 ·show t.a % 3<=2;omega
 ·show(t.e:Rat).num.natAbs<=_;rw[Rat.num_intCast];omega
 ·show(t.e:Rat).den<=_;rw[Rat.den_intCast];decide
noncomputable def ml (l:List T5) (n:Nat):PQ:=toP ((l.take n).map T5.tm)
theorem wr64 {n:Int} (h : -9223372036854775808<=n/\n<9223372036854775808):IntKind.wrap .i64 n=n:=by
 simp[IntKind.wrap,IntKind.bits,IntKind.signed];omega
def tmR (l:List T5) (i:Nat):List (List C):=((l.take i).map T5.tm).map eT
theorem GU {l:List T5} {i:Nat} (h:i<l.length):tmR l (i+1)=tmR l i++[eT l[i].tm]:=by
 unfold tmR;rw[aq h,List.map_append,List.map_append];rfl
theorem Kf {l:List T5} {i:Nat} (h:i<=l.length):(tmR l i).length=i:=by simp[tmR];omega
theorem qO (l:List T5) (n:Nat) (hn:n<=2) (hl:l.length<=9223372036854775807) (h:∀ t∈l,t.ok):Fn Tryz.prog 74 [tl l,iN n,iN 1] [iUp (ml l n)]:=by
 have hmk:=F8 (L:=(l.take n).map T5.tm) (fun t ht=>by
  obtain⟨u,hu,rfl⟩:=List.mem_map.1 ht;exact T5.sml (h u (List.mem_of_mem_take hu))) ar
 refine aJ (fn:=Tryz.f74) ?_;simp -dsimp only[go_sem];refine cf 7 11 8 (rs:=[]) rfl au ?_;refine br [(7,10),(12,52)] [(9,9)] [(11,11),(52,52)] (fun m τ β ε=>∃ i:Nat,m=n-i/\i<=n/\i<=l.length/\τ 8 = .i (iN i)/\Own 8 (tmR l i) 7 11 τ ε)
  (fun e τ β ε=>e = .exit 0/\Own 8 (tmR l n) 7 11 τ ε) n ?_ ?_ ?_
 ·exact⟨0,aw,aw,aw,rfl,Own.mk (g:=1) (mm:=false) aw rfl rfl rfl⟩
 ·rintro m τ β ε π hK hKB hKE ⟨i,hm,hi,hil,h8,g,mm,hg,h7,h11⟩;have hlen:(tmR l i).length=i:=Kf hil;rw[hlen]at h7;have k0:τ 0 = .i (tl l):=(hK 0 rfl).trans rfl;have k1:τ 1 = .i (iN n):=(hK 1 rfl).trans rfl;have k2:τ 2 = .i (iN 1):=(hK 2 rfl).trans rfl;by_cases hA:i<l.length
  ·have dA:decide ((i:Int)<(l.length:Int))=true:=aF aw;have gl:l[i]?=some l[i]:=by simp[hA]
   by_cases hB:i<n
   ·have dB:decide ((i:Int)<(n:Int))=true:=aF aw;have ht:=h _ (List.getElem_mem hA);unfold T5.ok at ht;simp -dsimp only[go_sem,h8,k0,k1,dA,dB,az];refine aQ gl ?_;simp -dsimp only[go_sem,T5.row,Int.reduceToNat,Int.reduceLE,aC,h8,k0];rw[wr64 aw];refine ao (dJ l[i].e aw) rfl ?_;simp -dsimp only[go_sem,Int.reduceToNat,Int.reduceLE,aC];refine be [(10,10),(31,48)] [(9,9)] [] (fun m τ' β' ε'=>∃ k:Nat,m=1-k/\k<=1/\τ' 10 = .i (iN k)/\β' 9=⟨(β 9).gen+1,eT (if k=0 then(e0,(l[i].e:Rat))else l[i].tm)⟩)
     (fun e τ' β' ε'=>e = .exit 2/\β' 9=⟨(β 9).gen+1,eT l[i].tm⟩) 1 ?_ ?_ ?_
    ·exact⟨0,aw,aw,rfl,rfl⟩
    ·rintro m2 τ2 β2 ε2 π2 hK2 hKB2 hKE2 ⟨k,hm2,hk,h10,b9⟩;have q0:τ2 0 = .i (tl l):=(hK2 0 rfl).trans k0;have q2:τ2 2 = .i (iN 1):=(hK2 2 rfl).trans k2;have q8:τ2 8 = .i (iN i):=(hK2 8 rfl).trans h8;have q9:τ2 9 = .bp 9 ((β 9).gen+1) 0:=(hK2 9 rfl).trans rfl;obtain rfl|rfl:k=0\/k=1:=aw
     ·have h10':τ2 10 = .i (iN 0):=h10;rw[if_pos rfl]at b9;have em:(((IntKind.i64.wrap l[i].a).tmod 3)+3).tmod 3=l[i].a % 3:=by
       rw[wr64 aw];rcases Int.le_total 0 l[i].a with hp|hp
       ·rw[Int.tmod_eq_emod_of_nonneg hp,Int.tmod_eq_emod_of_nonneg aw];omega
       ·have:l[i].a.tmod 3 = -((-l[i].a) % 3):=by
         rw[<-Int.tmod_eq_emod_of_nonneg aw,Int.neg_tmod,Int.neg_neg]
        rw[this,Int.tmod_eq_emod_of_nonneg aw];omega
      simp -dsimp only[go_sem,h10',q0,q2,q8,q9,b9,Int.reduceToNat,Int.reduceLE,aC,Int.reduceLT,decide_true];refine aQ gl ?_;simp -dsimp only[go_sem,T5.row,h10',q0,q2,q8,q9,b9,Int.reduceToNat,Int.reduceLE,aC,em];have eb : -3<=(IntKind.i64.wrap l[i].a).tmod 3/\(IntKind.i64.wrap l[i].a).tmod 3<=3:=by
       rw[wr64 aw];rcases Int.le_total 0 l[i].a with hp|hp
       ·rw[Int.tmod_eq_emod_of_nonneg hp];omega
       ·have:l[i].a.tmod 3 = -((-l[i].a) % 3):=by
         rw[<-Int.tmod_eq_emod_of_nonneg aw,Int.neg_tmod,Int.neg_neg]
        omega
      repeat(refine And.intro aw ?_)
      refine again 0 aw ⟨(aA hK2),(aA hKB2),hKE2,1,rfl,aw,rfl,?_⟩;rw[if_neg aH];simp -dsimp only[go_sem];rfl
     ·have h10':τ2 10 = .i (iN 1):=h10;rw[if_neg aH]at b9;simp -dsimp only[go_sem,h10',q2,Int.reduceLT,decide_false];exact⟨(aA hK2),hKB2,hKE2,b9⟩
    ·rintro e τ2 β2 ε2 π2 hK2 hKB2 hKE2 ⟨rfl,b9⟩;have r9:τ2 9 = .bp 9 ((β 9).gen+1) 0:=(hK2 9 rfl).trans rfl;have r8:τ2 8 = .i (iN i):=(hK2 8 rfl).trans h8;have r7:τ2 7 = .sl 11 g i:=(hK2 7 rfl).trans h7;have f11:ε2 11=⟨g,8,tmR l i,mm,true⟩:=(hKE2 11 rfl).trans h11;have kO:=Kp.step2 hK hK2 (by intro n;simp[inR]<;>omega) (aA hK);have kB:=Kp.step2 hKB hKB2 (by intro n;simp[inR]<;>omega) (aA hKB);have kE:=Kp.step2 hKE hKE2 (by intro n;simp[inR]) hKE;simp -dsimp only[go_sem,r9,r8,r7,f11,b9,hg,hlen]
     repeat(refine And.intro aw ?_)
     refine bc (n-(i+1)) 7 52 11 aw rfl rfl aw aH ⟨(aA kO),kB,(aA kE),i+1,rfl,aw,aw,rfl,?_⟩;refine Own.mk2 (Nat.succ_pos _) (by simp -dsimp only[go_sem];rfl) (by simp -dsimp only[go_sem];rfl) (by rw[List.length_append,hlen];rfl) (GU hA).symm
   ·have dB:decide ((i:Int)<(n:Int))=false:=aG aw;obtain rfl:i=n:=aw;simp -dsimp only[go_sem,h8,k0,k1,dA,dB,az];exact⟨(aA hK),hKB,hKE,Own.mk hg h7 hlen.symm h11⟩
  ·have dA:decide ((i:Int)<(l.length:Int))=false:=aG aw;have et:tmR l n=tmR l i:=by unfold tmR;rw[List.take_of_length_le aw,List.take_of_length_le aw]
   simp -dsimp only[go_sem,h8,k0,k1,dA,az];rw[et];exact⟨(aA hK),hKB,hKE,Own.mk hg h7 hlen.symm h11⟩
 ·rintro e τ β ε π hK hKB hKE ⟨rfl,g,mm,hg,h7,h11⟩;refine⟨_,bA.freeze _ 11,?_⟩;simp -dsimp only[go_sem,h7,h11,hg];refine aO (args':=[iM ((l.take n).map T5.tm)]) (by rw[List.take_of_length_le (ay _)];rfl) hmk ?_;simp -dsimp only[go_sem];rw[ml,List.map_take]
theorem w5 (L:List T5) (h:∀ t∈L,t.ok):∃ A:Alg.P Int,toP (L.map T5.tm)=toQ A/\Alg.n1 A<=128*L.length/\aa A<=3:=by
 induction L with
 | nil=>exact⟨0,by rw[cX];rfl,by rw[iu];omega,by rw[aM.2 rfl];omega⟩
 | cons t L ih =>
  obtain⟨A,h1,h2,h3⟩:=ih fun u hu=>h u (by simp[hu]);have ht:=h t au;unfold T5.ok at ht;refine⟨mon (t.a % 3).toNat t.e+A,?_,?_,?_⟩
  ·rw[List.map_cons,a8,h1,j6,nF];rfl
  ·have e:=ii (t.a % 3).toNat t.e 1;rw[mul_one]at e;have e1:Alg.n1 (1:Alg.P Int)<=1:=by
    refine pq (n:=1) (H:=1) (Nat.le_of_eq (by rw[<-cu];exact jm aH)) (fun i=>?_);rw[<-cu];cases i with
    | zero=>exact ay 1
    | succ i=>exact Nat.zero_le 1
   have e2:t.e.natAbs*Alg.n1 (1:Alg.P Int)<=t.e.natAbs*1:=Nat.mul_le_mul_left _ e1;have:=lH (mon (t.a % 3).toNat t.e) A;simp only[List.length_cons];omega
  ·exact dh (cI fun i hi=>by rw[ce,if_neg aw]) h3
noncomputable def den1 (p:PQ):PQ:=if p=0 then 1 else p
theorem Lu (p:PQ):den1 p≠0:=by
 unfold den1;split
 ·exact fK
 ·assumption
noncomputable def tH (N D:List T5) (n:Nat):KQ:=Alg.fr (ml N n) (den1 (ml D n))
theorem Bg {N D:List T5} {n:Nat} (hn:n<=2) (hN:∀ t∈N,t.ok) (hD:∀ t∈D,t.ok):FB 8 (tH N D n):=by
 obtain⟨A,a1,a2,a3⟩:=w5 (N.take n) fun t ht=>hN t (List.mem_of_mem_take ht);obtain⟨B,b1,b2,b3⟩:=w5 (D.take n) fun t ht=>hD t (List.mem_of_mem_take ht);have la:(N.take n).length<=n:=by simp;omega
 have lb:(D.take n).length<=n:=by simp;omega
 have s1:aa (1:Alg.P Int)=1:=jm (R:=Int) aH;have e8:(2:Nat) ^ 8=256:=rfl;by_cases h:ml D n=0
 ·refine⟨A,1,fV (R:=Int) aH,?_,aw,aw,aw,?_⟩
  ·rw[tH,den1,if_pos h,o7,<-a1];rfl
  ·rw[gz (n:=1) aw];show 0+Int.natAbs 1<=_;omega
 ·refine⟨A,B,fun e=>h (by rw[ml,b1,e,cX]),?_,aw,aw,aw,aw⟩;rw[tH,den1,if_neg h,<-a1,<-b1];rfl
theorem Ho {N:List T5} {n:Nat} (hn:n<=2) (hN:∀ t∈N,t.ok):am 8 (ml N n)/\aa (ml N n)<=3:=by
 obtain⟨A,a1,a2,a3⟩:=w5 (N.take n) fun t ht=>hN t (List.mem_of_mem_take ht);have la:(N.take n).length<=n:=by simp;omega
 have e8:(2:Nat) ^ 8=256:=rfl;rw[ml,a1];exact⟨am.of aw,by rw[gk];exact a3⟩
theorem wo (N D:List T5) (n:Nat) (hn:n<=2) (lN:N.length<=9223372036854775807) (lD:D.length<=9223372036854775807) (hN:∀ t∈N,t.ok) (hD:∀ t∈D,t.ok) :
  Fn Tryz.prog 23 [.g [.lst (N.map T5.row),.lst (D.map T5.row)],iN n,iN 1] [iK (tH N D n)]:=by
 obtain⟨n1,n2⟩:=Ho hn hN;obtain⟨d1,d2⟩:=Ho hn hD;have d3:am 8 (den1 (ml D n))/\aa (den1 (ml D n))<=3:=by
  unfold den1;split
  ·exact⟨dm _,by rw[cD];omega⟩
  ·exact⟨d1,d2⟩
 have of:=xJ (Lu (ml D n)) (n1.mono aw) (d3.1.mono aw) aw aw ((Bg hn hN hD).mono aw);have hz:=hzU (ml D n);refine aJ (fn:=Tryz.f23) ?_;simp -dsimp only[go_sem,Int.reduceToNat,Int.reduceLE,aC];refine ao (qO D n hn lD hD) rfl ?_;by_cases h:ml D n=0
 ·rw[aF h]at hz;simp -dsimp only[go_sem,az,hz];refine aK uC ?_;simp -dsimp only[go_sem,Int.reduceToNat,Int.reduceLE,aC];refine ao (qO N n hn lN hN) rfl ?_;simp -dsimp only[go_sem];refine aO (args':=[iUp (ml N n),iUp (den1 (ml D n))]) (by rw[den1,if_pos h]) of ?_;simp -dsimp only[go_sem];rfl
 ·rw[aG h]at hz;simp -dsimp only[go_sem,az,hz,Int.reduceToNat,Int.reduceLE,aC];refine ao (qO N n hn lN hN) rfl ?_;simp -dsimp only[go_sem];refine aO (args':=[iUp (ml N n),iUp (den1 (ml D n))]) (by rw[den1,if_neg h]) of ?_;simp -dsimp only[go_sem];rfl
structure iq where
 N:List T5
 D:List T5
def iq.row (x:iq):List C:=[.lst (x.N.map T5.row),.lst (x.D.map T5.row)]
def iq.ok (x:iq):Prop:=(x.N.length<=9223372036854775807/\x.D.length<=9223372036854775807)/\(∀ t∈x.N,t.ok)/\∀ t∈x.D,t.ok
noncomputable def iq.k (x:iq) (n:Nat):KQ:=tH x.N x.D n
abbrev rl (l:List iq):IV := .c (.lst (l.map iq.row))
noncomputable def mdR (l:List iq) (i:Nat):List KQ:=(l.take i).map fun x=>x.k 2
theorem HX {l:List iq} {i:Nat} (h:i<l.length):mdR l (i+1)=mdR l i++[l[i].k 2]:=by
 unfold mdR;rw[aq h,List.map_append];rfl
theorem KO {l:List iq} {i:Nat} (h:i<=l.length):(mdR l i).length=i:=by simp[mdR];omega
noncomputable def rk (l:List iq) (n:Nat):KP:=ac (mdR l n)
theorem Di {l:List iq} (n:Nat) (h:∀ x∈l,x.ok):PW 8 (rk l n):=fun i=>by
 rw[rk,qv,List.getD_eq_getElem?_getD];by_cases hi:i<(mdR l n).length
 ·rw[aD hi];have hm:=List.getElem_mem hi;generalize (mdR l n)[i]=f at hm;obtain⟨x,hx,rfl⟩:=List.mem_map.1 hm;have hk:=h x (List.mem_of_mem_take hx);exact Bg aw hk.2.1 hk.2.2
 ·rw[List.getElem?_eq_none aw];exact fN _
theorem y8 (l:List iq) (n:Nat):aa (rk l n)<=n:=ax (MB _) (by simp[mdR];omega)
theorem F9 (l:List iq) (n:Nat) (hn:n<=3) (hl:l.length<=9223372036854775807) (h:∀ x∈l,x.ok):Fn Tryz.prog 13 [rl l,iN n] [ku (rk l n)]:=by
 have htr:dF (mdR l n)=aj (rk l n):=fX _;have hln:(mdR l n).length<=3:=by simp[mdR];omega
 refine aJ (fn:=Tryz.f13) ?_;simp -dsimp only[go_sem];refine cf 5 7 2 (rs:=[]) rfl au ?_;refine br [(5,6),(8,26)] [] [(7,7),(26,26)] (fun m τ β ε=>∃ i:Nat,m=n-i/\i<=n/\i<=l.length/\τ 6 = .i (iN i)/\Own 2 ((mdR l i).map kr) 5 7 τ ε)
  (fun e τ β ε=>e = .exit 0/\Own 2 ((mdR l n).map kr) 5 7 τ ε) n ?_ ?_ ?_
 ·exact⟨0,aw,aw,aw,rfl,Own.mk (g:=1) (mm:=false) aw rfl rfl rfl⟩
 ·rintro m τ β ε π hK hKB hKE ⟨i,hm,hi,hil,h6,g,mm,hg,h5,h7⟩;have hlen:=KO hil;rw[az,hlen]at h5;have k0:τ 0 = .i (rl l):=(hK 0 rfl).trans rfl;have k1:τ 1 = .i (iN n):=(hK 1 rfl).trans rfl;by_cases hA:i<l.length
  ·have dA:decide ((i:Int)<(l.length:Int))=true:=aF aw;have gl:l[i]?=some l[i]:=by simp[hA]
   by_cases hB:i<n
   ·have dB:decide ((i:Int)<(n:Int))=true:=aF aw;have ho:=h _ (List.getElem_mem hA);have mk:=wo l[i].N l[i].D 2 aw ho.1.1 ho.1.2 ho.2.1 ho.2.2;simp -dsimp only[go_sem,h6,k0,k1,dA,dB,az];refine aQ gl ?_;simp -dsimp only[go_sem,iq.row,h6,k0,k1,h5];refine ao mk rfl ?_;simp -dsimp only[go_sem,h5,h7,hg,h6,az,hlen]
    repeat(refine And.intro aw ?_)
    refine bc (n-(i+1)) 5 26 7 aw rfl rfl aw aH ⟨(aA hK),hKB,(aA hKE),i+1,rfl,aw,aw,rfl,?_⟩;exact Own.mk2 (Nat.succ_pos _) (by simp -dsimp only[go_sem];rfl) (by simp -dsimp only[go_sem];rfl) (by simp[hlen]) (by rw[HX hA,List.map_append];rfl)
   ·have dB:decide ((i:Int)<(n:Int))=false:=aG aw;obtain rfl:i=n:=aw;simp -dsimp only[go_sem,h6,k0,k1,dA,dB,az];exact⟨(aA hK),hKB,hKE,Own.mk hg h5 (by rw[az,hlen]) h7⟩
  ·have dA:decide ((i:Int)<(l.length:Int))=false:=aG aw;have et:mdR l n=mdR l i:=by unfold mdR;rw[List.take_of_length_le aw,List.take_of_length_le aw]
   simp -dsimp only[go_sem,h6,k0,k1,dA,az];rw[et];exact⟨(aA hK),hKB,hKE,Own.mk hg h5 (by rw[az,hlen]) h7⟩
 ·rintro e τ β ε π hK hKB hKE ⟨rfl,g,mm,hg,h5,h7⟩;refine⟨_,bA.freeze _ 7,?_⟩;simp -dsimp only[go_sem,h5,h7,hg];refine aO (args':=[kl (mdR l n)]) rfl (nu _ aw) ?_;simp -dsimp only[go_sem];rw[htr]
theorem Ar (l:List iq) (hl:l.length<=9223372036854775807) (h:∀ x∈l,x.ok):Fn Tryz.prog 12 [rl l] [ku (rk l 3)]:=by
 refine aJ (fn:=Tryz.f12) ?_;simp -dsimp only[go_sem];refine ao (F9 l 3 aw hl h) rfl ?_;simp -dsimp only[go_sem]
theorem me (n:Int) (h : -9223372036854775808<=n/\n<9223372036854775808):Fn Tryz.prog 30 [iN n] [iK (kn n)]:=by
 refine aJ (fn:=Tryz.f30) ?_;simp -dsimp only[go_sem];refine aK (fD n h) ?_;simp -dsimp only[go_sem]
theorem lf:Fn Tryz.prog 59 [] [iK (Alg.em ak)]:=by
 refine aJ (fn:=Tryz.f59) ?_;simp -dsimp only[go_sem];refine aK Jj ?_;simp -dsimp only[go_sem]
theorem pZ {f g:KQ} (hf:FW f) (hg:FW g) (hg0:g≠0) (h:FW (f*Alg.inv g)):Fn Tryz.prog 60 [iK f,iK g] [iK (f*Alg.inv g)]:=by
 refine aJ (fn:=Tryz.f60) ?_;simp -dsimp only[go_sem];refine ao (wl hf hg hg0 h) rfl ?_;simp -dsimp only[go_sem]
abbrev OkL (l:List iq):Prop:=l.length<=9223372036854775807/\∀ x∈l,x.ok
end Go.AM
namespace Go.AM
open Go.Proofs
open Classical
abbrev one1:List Tm:=[(e0,1)]
def Tok (t:Tm):Prop:=cP t.1/\t.1.lt 1099511627776/\t.2≠0/\QB 4294967296 t.2
theorem Om (e:Ex):e0.add e=e:=by simp[e0,Ex.add]
theorem FR (e:Ex):cm e e=0:=(jz e e).2 rfl
theorem Fq {m:Tm} (h:Tok m):Fr one1 [m]=[m]:=by
 have e1:sumM one1 [m] []=[m]:=by
  simp only[sumM,rowM,List.foldl_cons,List.foldl_nil,addT,Om];rw[show(1:Rat)*m.2=m.2 from Rat.one_mul _]
 rw[Fr,e1,vd];have e2:keep m=true:=by
  unfold keep;rw[aF h.1,aF h.2.2.1];rfl
 simp only[List.filter_cons,e2,if_true,List.filter_nil,EX,pC]
theorem EU (m:Tm) (R:List Tm):EV (m::R) [m]=R:=by
 rw[EV,ju _ aH,List.map_cons,List.map_nil,jC];simp only[FR];rw[if_neg aH,if_neg aH,if_pos (by show m.2+m.2 * -1=0;rw[Rat.mul_neg,Rat.mul_one];exact Rat.add_neg_cancel _),jB]
theorem C7 (q:Rat):q/1=q:=by rw[Rat.div_def,show(1:Rat)⁻¹=1 by decide +kernel];exact Rat.mul_one q
theorem Az (N:List Tm) (hl:N.length<=1048576) (h:∀ t∈N,Tok t):Fn Tryz.prog 152 [iM N,iM one1] [iM N,iB true]:=by
 refine aJ (fn:=Tryz.f152) ?_;have c1:one1[0]?=some (e0,1):=rfl;have e1:decide (((1:Nat):Int)=0)=false:=rfl;simp -dsimp only[go_sem,e1,az];refine cf 6 6 8 (rs:=[]) rfl au ?_;refine br [(0,0),(4,8),(12,59)] [(7,7)] [(53,53),(6,6)] (fun n τ β ε=>∃ i:Nat,n=N.length-i/\i<=N.length/\τ 0 = .i (iM (N.drop i))/\Own 8 ((N.take i).map eT) 6 6 τ ε)
  (fun e τ β ε=>e = .exit 0/\Own 8 (N.map eT) 6 6 τ ε) N.length ?_ ?_ ?_
 ·exact⟨0,aw,aw,rfl,Own.mk (g:=1) (mm:=false) aw rfl rfl rfl⟩
 ·rintro n τ β ε π hK hKB hKE ⟨i,hn,hi,h0,g,mm,hg,h6,hrow⟩;have hlen:(N.take i).length=i:=by simp;omega
  rw[az,hlen]at h6;have k1:τ 1 = .i (iM one1):=(hK 1 rfl).trans rfl;by_cases hlt:i<N.length
  ·obtain⟨m,hmi⟩:∃ m,N[i]=m:=⟨_,rfl⟩;obtain⟨R,eR⟩:∃ R,N.drop (i+1)=R:=⟨_,rfl⟩;have hdr:N.drop i=N[i]::N.drop (i+1):=List.drop_eq_getElem_cons hlt;have hm:=h _ (List.getElem_mem hlt);have htk:N.take (i+1)=N.take i++[N[i]]:=aq hlt;have hll:(N.drop (i+1)).length<=1048576:=by simp;omega
   rw[hmi,eR]at hdr;rw[hmi]at hm htk;rw[eR]at hll;have hRq:∀ t∈m::R,QB 8589934592 t.2:=fun t ht=>by
    rw[<-hdr]at ht;exact(h t (List.mem_of_mem_drop ht)).2.2.2.mono' aw
   rw[hdr]at h0;have cR:(m::R)[0]?=some m:=rfl;have hA:(0:Int)<((R.length+1:Nat):Int):=aw;have lR:(m::R).length=R.length+1:=rfl;obtain⟨t1,t2,t3,t4⟩:=hm;have eN:decide (cP m.1)=true:=aF t1;unfold cP at t1;have t2':=t2;unfold Ex.lt at t2';simp -dsimp only[go_sem,h0,hA,Int.reduceToNat,Int.reduceLE,aC];refine aQ cR ?_;simp -dsimp only[go_sem,h0,hA,h6,hrow];refine br [(8,8),(18,34)] [(7,7)] [] (fun n τ' β' ε'=>∃ i:Nat,n=4-i/\i<=4/\τ' 18 = .i (iN i)/\β' 7=⟨(β 7).gen+1,eT m⟩)
    (fun e τ' β' ε'=>e = .exit 2/\β' 7=⟨(β 7).gen+1,eT m⟩) 4 ?_ ?_ ?_
   ·exact⟨0,aw,aw,rfl,rfl⟩
   ·rintro n2 τ2 β2 ε2 π2 hK2 hKB2 hKE2 ⟨i,hn2,hi,h18,b7⟩;have q7:τ2 7 = .bp 7 ((β 7).gen+1) 0:=(hK2 7 rfl).trans rfl;have q1:τ2 1 = .i (iM one1):=(hK2 1 rfl).trans k1;obtain rfl|rfl|rfl|rfl|rfl:i=4\/i=0\/i=1\/i=2\/i=3:=aw
    ·have h18':τ2 18 = .i (iN 4):=h18;simp -dsimp only[go_sem,h18',Int.reduceLT,decide_false];exact⟨(aA hK2),hKB2,hKE2,b7⟩
    ·have h18':τ2 18 = .i (iN 0):=h18;simp -dsimp only[go_sem,h18',Int.reduceLT,decide_true];refine ap 13 [] false true ?_;simp -dsimp only[go_sem,h18',q1,q7,b7,Int.reduceToNat,Int.reduceLE,aC,Int.reduceAdd];refine aQ c1 ?_;simp -dsimp only[go_sem,h18',q1,q7,b7,Int.reduceToNat,Int.reduceLE,aC,Int.reduceAdd,e0,Int.sub_zero]
     repeat(refine And.intro aw ?_)
     refine again (4-1) aw ⟨(aA hK2),(aA hKB2),hKE2,1,rfl,aw,rfl,?_⟩;simp -dsimp only[go_sem]
    ·have h18':τ2 18 = .i (iN 1):=h18;simp -dsimp only[go_sem,h18',Int.reduceLT,decide_true];refine ap 13 [] false true ?_;simp -dsimp only[go_sem,h18',q1,q7,b7,Int.reduceToNat,Int.reduceLE,aC,Int.reduceAdd];refine aQ c1 ?_;simp -dsimp only[go_sem,h18',q1,q7,b7,Int.reduceToNat,Int.reduceLE,aC,Int.reduceAdd,e0,Int.sub_zero]
     repeat(refine And.intro aw ?_)
     refine again (4-2) aw ⟨(aA hK2),(aA hKB2),hKE2,2,rfl,aw,rfl,?_⟩;simp -dsimp only[go_sem]
    ·have h18':τ2 18 = .i (iN 2):=h18;simp -dsimp only[go_sem,h18',Int.reduceLT,decide_true];refine ap 13 [] false true ?_;simp -dsimp only[go_sem,h18',q1,q7,b7,Int.reduceToNat,Int.reduceLE,aC,Int.reduceAdd];refine aQ c1 ?_;simp -dsimp only[go_sem,h18',q1,q7,b7,Int.reduceToNat,Int.reduceLE,aC,Int.reduceAdd,e0,Int.sub_zero]
     repeat(refine And.intro aw ?_)
     refine again (4-3) aw ⟨(aA hK2),(aA hKB2),hKE2,3,rfl,aw,rfl,?_⟩;simp -dsimp only[go_sem]
    ·have h18':τ2 18 = .i (iN 3):=h18;simp -dsimp only[go_sem,h18',Int.reduceLT,decide_true];refine ap 13 [] false true ?_;simp -dsimp only[go_sem,h18',q1,q7,b7,Int.reduceToNat,Int.reduceLE,aC,Int.reduceAdd];refine aQ c1 ?_;simp -dsimp only[go_sem,h18',q1,q7,b7,Int.reduceToNat,Int.reduceLE,aC,Int.reduceAdd,e0,Int.sub_zero]
     repeat(refine And.intro aw ?_)
     refine again (4-4) aw ⟨(aA hK2),(aA hKB2),hKE2,4,rfl,aw,rfl,?_⟩;simp -dsimp only[go_sem]
   ·rintro e τ2 β2 ε2 π2 hK2 hKB2 hKE2 ⟨rfl,b7⟩;refine⟨_,bA.refl _,?_⟩;have r7:τ2 7 = .bp 7 ((β 7).gen+1) 0:=(hK2 7 rfl).trans rfl;have r1:τ2 1 = .i (iM one1):=(hK2 1 rfl).trans k1;have r0:τ2 0 = .i (iM (m::R)):=(hK2 0 rfl).trans h0;have r6:τ2 6 = .sl 6 g i:=(hK2 6 rfl).trans h6;have rr:ε2 6=⟨g,8,(N.take i).map eT,mm,true⟩:=(hKE2 6 rfl).trans hrow;have kO:=Kp.step2 hK hK2 (by intro n;simp[inR]<;>omega) (aA hK);have kB:=Kp.step2 hKB hKB2 (by intro n;simp[inR]<;>omega) (aA hKB);have kE:=Kp.step2 hKE hKE2 (by intro n;simp[inR]) hKE;have hq1:QB 17179869184 (1:Rat):=nw;have hq2:=t4.mono' (m:=8589934592) aw;have hmm:(1:Rat)*m.2=m.2:=Rat.one_mul _;simp -dsimp only[go_sem,r7,b7,r1,r0];refine aO (args':=[iE m.1]) rfl (lG _) ?_;simp -dsimp only[go_sem,eN];refine bB av 9 11 [] true [.tmp 49] none av av av av aE ?_;simp -dsimp only[go_sem,r7,b7,r1,r0,Int.reduceToNat,Int.reduceLE,aC];refine aQ c1 ?_;simp -dsimp only[go_sem,r7,b7,r1,r0,Int.reduceToNat,Int.reduceLE,aC];refine aO (args':=[iQ m.2,iQ 1]) rfl (su _ _ aH (t4.mono' aw) hq1) ?_;rw[C7];simp -dsimp only[go_sem,r7,b7,r1,r0,Int.reduceToNat,Int.reduceLE,aC];simp -dsimp only[go_sem,r6,rr,hg,az,hlen]
    repeat(refine And.intro aw ?_)
    simp -dsimp only[go_sem,r7,r1,r0];refine aO (args':=[iM one1,iM [m]]) rfl (xO one1 [m] aH au (fun t ht=>by simp at ht;subst ht;simp[Ex.lt,e0]) (fun t ht=>by simp at ht;subst ht;unfold Ex.lt;omega)
     (fun t ht=>by simp at ht;subst ht;exact hq1) (fun t ht=>by simp at ht;subst ht;exact t4.mono' aw) ?_) ?_
    ·intro i' j' hi' hj';obtain rfl:i'=0:=by simp at hi';omega
     obtain rfl:j'=0:=by simp at hj';omega
     refine⟨?_,fun e q hq=>?_⟩
     ·show QB 8589934592 ((1:Rat)*m.2);rw[hmm];exact hq2
     ·simp[rowM,sumM]at hq
    rw[Fq ⟨by unfold cP;exact t1,t2,t3,t4⟩];simp -dsimp only[go_sem,r0];refine ao (D6 (m::R) [m] ar hRq (fun t ht=>by simp at ht;subst ht;exact hq2)) rfl ?_;rw[EU];simp -dsimp only[go_sem];refine bc (N.length-(i+1)) 6 53 6 aw rfl rfl aw aH ⟨(aA kO),(aA kB),(aA kE),i+1,rfl,aw,by rw[eR];simp -dsimp only[go_sem],?_⟩;exact Own.mk2 (Nat.succ_pos _) (by simp -dsimp only[go_sem];rfl) (by simp -dsimp only[go_sem];rfl) ar (by simp only[<-List.map_take];rw[htk,List.map_append];rfl)
  ·have hA:¬ (0:Int)<((0:Nat):Int):=aw;obtain rfl:i=N.length:=aw;rw[List.take_length]at hrow;rw[List.drop_length]at h0;simp -dsimp only[go_sem,h0,hA];exact⟨(aA hK),hKB,hKE,Own.mk hg h6 au hrow⟩
 ·rintro e τ β ε π hK hKB hKE ⟨rfl,g,mm,hg,h6,hrow⟩;refine⟨_,bA.refl _,?_⟩;rw[az]at h6;simp -dsimp only[go_sem,h6,hrow,hg]
theorem JJ {N:List Tm} (hN:N≠[]):Fn Tryz.prog 151 [iM N,iM one1] [iM one1]:=by
 have e1:decide ((N.length:Int)=0)=false:=aG fun h=>hN (List.eq_nil_of_length_eq_zero aw);have e2:decide (((1:Nat):Int)=0)=false:=rfl;refine aJ (fn:=Tryz.f151) ?_;simp -dsimp only[go_sem,e1,e2,az];refine ao (nj N) rfl ?_;by_cases h1:zi N=true
 ·simp -dsimp only[go_sem,h1];refine aK By ?_;simp -dsimp only[go_sem]
 ·have e3:zi N=false:=by simpa using h1
  simp -dsimp only[go_sem,e3];refine ao (nj one1) rfl ?_;rw[show zi one1=true from rfl];simp -dsimp only[go_sem];refine aK By ?_;simp -dsimp only[go_sem]
theorem sX (N:List Tm):d7 N 1=N:=by
 rw[ju _ aH]
 conv=>rhs;rw[<-List.map_id N]
 exact List.map_congr_left fun t _=>by rw[Rat.mul_one];rfl
theorem yu:∀ t∈one1,Tok t:=by
 intro t ht;simp at ht;subst ht;refine⟨by simp[cP,e0],by simp[Ex.lt,e0],aH,?_,?_⟩
 ·exact ax (fq (k:=1) aH) aw
 ·exact ax (fq (k:=1) aH) aw
theorem Ax (N:List Tm) (hl:N.length<=1048576) (h:∀ t∈N,Tok t):Fn Tryz.prog 110 [iM N,iM one1] [iF N one1,iN 0]:=by
 by_cases hN:N=[]
 ·subst hN;exact Aw au
 have q1:∀ t∈N,QB 17179869184 t.2:=fun t ht=>(h t ht).2.2.2.mono' aw;have:=JQ (N:=N) (D:=one1) (G:=one1) (N1:=N) (D1:=one1) (c:=1) (x:=(e0,1)) au hN (JJ hN) (Az N hl h) (Az one1 aH yu) rfl aH nw (C7 1).symm
  (jX N 1 aw q1 nw) (jX one1 1 aH (fun t ht=>(yu t ht).2.2.2.mono' aw) nw)
 rw[sX,sX]at this;exact this
abbrev F2:=List Tm×List Tm
def fr2 (x:F2):List C:=[cM x.1,cM x.2]
abbrev fl (l:List F2):IV := .c (.lst (l.map fr2))
theorem Me {a:List Tm} {v:Nat} {L:List (List Tm)} (hl:L.length<=1099511627776) (h:FnM Tryz.prog 89 [iM a,iN v] 1 (L.map fun N=>[cM N])):Fn Tryz.prog 43 [iM a,iN v] [fl (L.map fun N=>(N,one1))]:=by
 refine aJ (fn:=Tryz.f43) ?_;simp -dsimp only[go_sem];refine co h ?_;simp -dsimp only[go_sem,az];refine cf 5 5 2 (rs:=[]) rfl au ?_;refine br [(5,5),(7,7),(12,21)] [] [(20,20),(5,5)] (fun n τ β ε=>∃ i:Nat,n=L.length-i/\i<=L.length/\τ 12 = .i (iN i)/\Own 2 ((L.take i).map fun N=>fr2 (N,one1)) 5 5 τ ε)
  (fun e τ β ε=>e = .exit 0/\Own 2 (L.map fun N=>fr2 (N,one1)) 5 5 τ ε) L.length ?_ ?_ ?_
 ·exact⟨0,aw,aw,rfl,Own.mk (g:=1) (mm:=false) (len:=0) aw rfl rfl rfl⟩
 ·rintro n τ β ε π hK hKB hKE ⟨i,hn,hi,h12,g,mm,hg,h5,hrow⟩;have k10:τ 10 = .sl 10 1 L.length:=(hK 10 rfl).trans rfl;have k11:τ 11 = .i (iN L.length):=(hK 11 rfl).trans rfl;have e10:ε 10=⟨1,1,L.map fun N=>[cM N],!L.isEmpty,true⟩:=by rw[hKE 10 aH];simp -dsimp only[go_sem,List.isEmpty_map]
  have hlen:(L.take i).length=i:=by simp;omega
  rw[az,hlen]at h5;by_cases hlt:i<L.length
  ·have hA:(i:Int)<(L.length:Int):=aw;have hgl:L[i]?=some L[i]:=aD hlt;have htk:L.take (i+1)=L.take i++[L[i]]:=aq hlt;simp -dsimp only[go_sem,h12,k10,k11,e10,hA,az];refine⟨hlt,aQ hgl ?_⟩;simp -dsimp only[go_sem,h12,k10,k11,e10,h5,hrow];refine aO (args':=[iM L[i]]) rfl (uX _) ?_;simp -dsimp only[go_sem,h12,h5,hrow,hg,az,hlen]
   repeat(refine And.intro aw ?_)
   refine bc (L.length-(i+1)) 5 20 5 aw rfl rfl aw aH ⟨(aA hK),hKB,(aA hKE),i+1,rfl,aw,rfl,?_⟩;exact Own.mk2 (Nat.succ_pos _) (by simp -dsimp only[go_sem];rfl) (by simp -dsimp only[go_sem];rfl) ar (by simp only[<-List.map_take];rw[htk,List.map_append];rfl)
  ·have hA:¬ (i:Int)<(L.length:Int):=aw;obtain rfl:i=L.length:=aw;rw[List.take_length]at hrow;simp -dsimp only[go_sem,h12,k11,hA];exact⟨(aA hK),hKB,hKE,Own.mk hg h5 au hrow⟩
 ·rintro e τ β ε π hK hKB hKE ⟨rfl,g,mm,hg,h5,hrow⟩;refine⟨_,bA.refl _,?_⟩;rw[az]at h5;simp -dsimp only[go_sem,h5,hrow,hg];simp[Function.comp_def]
theorem O4 (rs:List (List C)):FnC Tryz.prog 95 [.c (.lst rs)] 136 [[.lst rs]]:=by
 refine qU kd (fn:=Tryz.f95) av rfl rfl rfl av au av ?_;simp -dsimp only[go_sem,jT];refine lL (ts:=[(1,1)]) (by simp -dsimp only[go_sem]) (by simp -dsimp only[go_sem]) ?_;simp -dsimp only[go_sem,xn];exact⟨[(1,1)],rfl,au,au,rfl⟩
theorem Mr (l:List F2) (hl:l.length<=1099511627776):JH Tryz.prog 136 [[.lst (l.map fr2)]] (vV (fun x=>iF x.1 x.2) l):=by
 refine oS (fn:=Tryz.f136) av rfl rfl rfl av au av ?_;intro c hc hbl hL;rw[zh];have hb1:c.bs.length=1:=hbl;refine WPi.seq_k hc kd fun K hK _=>?_;simp -dsimp only[go_sem,az]
 repeat(refine And.intro aw ?_)
 refine hK _ (cJ hb1) ?_;refine WPi.block (WPi.loop (fun n s k=>∃ τ,s=⟨τ,upd mi 1000 ⟨1,[.lst (l.map fr2)]⟩,oa,m5⟩/\τ 0=sc (.func (.yield c.l) #[] #[])/\τ 1 = .bp 1000 1 0/\n<=l.length/\τ 3 = .i (iN ((n:Int)-1))/\k=some (l.length-n)) (n:=l.length) ⟨_,rfl,rfl,rfl,ay _,rfl,au⟩ ?_);rintro n s k ⟨τ,rfl,h0,h1,hn,h3,rfl⟩;refine WPi.seq_k hc kd fun K hK hK2=>?_;cases n with
 | zero =>
  have e1:decide ((0:Int)<=((0:Nat):Int)-1)=false:=rfl;simp -dsimp only[go_sem,h3,e1];refine hK2 _ _ au (cJ hb1) ?_;refine⟨.inl rfl,.inl ?_⟩;rw[jA];simp
 | succ n =>
  have en:((n+1:Nat):Int)-1=(n:Int):=aw;rw[en]at h3;have e1:decide ((0:Int)<=(n:Int))=true:=aF aw;have hg:l[n]?=some l[n]:=aD aw;simp -dsimp only[go_sem,h3,e1];refine hK _ (cJ hb1) ?_;refine WPi.seq ?_;refine WPi.block ?_;refine WPi.seq ?_;refine WPi.yreg_k hc kd 6 17 (l.length-(n+1)) [iN (n:Int),iF l[n].1 l[n].2] rfl rfl rfl rfl (by rw[hL];exact nV _ _ aw) fun K1 K2 hK1 hK2=>?_;simp -dsimp only[go_sem,h0,h1,h3];refine aQ hg ?_;simp -dsimp only[go_sem,h0,h1,h3,fr2];refine⟨cJ hb1,rfl,?_⟩;refine⟨hK1 _ (cJ hb1) ?_,hK2 _ (cJ hb1) ?_⟩
  ·refine WPi.end_k hc kd fun K hK=>?_;simp -dsimp only[go_sem];refine hK _ _ (cJ hb1) ?_;refine WPi.end_k hc kd fun K hK=>?_;simp -dsimp only[go_sem,h3]
   repeat(refine And.intro aw ?_)
   refine hK _ _ (cJ hb1) ?_;refine⟨n,aw,_,rfl,h0,h1,aw,rfl,?_⟩;congr 1;omega
  ·refine WPi.end_k hc kd fun K hK=>?_;simp -dsimp only[go_sem];refine hK _ _ (cJ hb1) ?_;exact⟨.inr rfl,.inr rfl⟩
theorem Qu (l:List F2) (v:Nat) (hv:v<4) (hl:l.length<=1099511627776) (o:Nat->F2) (h0:Fn Tryz.prog 63 [iN 0] [.g (fr2 (o 0))])
  (H:∀(k:Nat) (h:k<l.length),∃ m:F2,Fn Tryz.prog 65 [.g (fr2 (o k)),iF [(e0.to v 1,1)] one1] [.g (fr2 m)]/\Fn Tryz.prog 64 [.g (fr2 m),.g (fr2 l[l.length-(k+1)])] [.g (fr2 (o (k+1)))]) :
  Fn Tryz.prog 48 [fl l,iN v] [.g (fr2 (o l.length))]:=by
 refine lg (fn:=Tryz.f48) av rfl rfl rfl av au av ?_;refine WPn.seq_k kd fun K hK _=>?_;simp -dsimp only[go_sem];refine hK _ ?_;refine WPn.seq_k kd fun K hK _=>?_;simp -dsimp only[go_sem];refine aK h0 ?_;simp -dsimp only[go_sem];refine⟨rfl,hK _ ?_⟩;refine WPn.seq ?_;refine WPn.seq_k kd fun K hK _=>?_;simp -dsimp only[go_sem];refine nU [1000] rfl rfl rfl (O4 (l.map fr2)) au rfl ?_;rw[zQ];simp -dsimp only[go_sem];refine hK _ (WPn.block (WPn.rangeFunc (ts:=[(1000,1)]) [3,5] (fun k cs=>cs=[[C.v (.int .i64 (v:Int))],fr2 (o k)]) (fun _ _=>False) (by simp -dsimp only[go_sem]) (by simp -dsimp only[go_sem]) au rfl (Mr l hl) au (by simp -dsimp only[go_sem];decide) ?_ ?_ ?_ ?_ ?_))
 ·simp -dsimp only[go_sem];rfl
 ·intro x hx;obtain⟨p,-,rfl⟩:=List.mem_map.1 hx;rfl
 ·rintro k x cs hx rfl -;have hk:k<l.length:=by
   have:=(List.getElem?_eq_some_iff.1 hx).1;rwa [jA]at this
  have hx2:=nV (fun x:F2=>iF x.1 x.2) l (i:=l.length-(k+1)) aw;rw[show l.length-(l.length-(k+1)+1)=k by omega,hx]at hx2;cases hx2;obtain⟨m,H1,H2⟩:=H k hk;generalize hs:bW _ _ _ _ _=s;obtain⟨τ,β,ε,π⟩:=s;have h12:τ 12 = .i (iF l[l.length-(k+1)].1 l[l.length-(k+1)].2):=by
   rw[rF hs];simp -dsimp only[go_sem,bW,jd]
  have h3:τ 3 = .bp 3 1 0:=by
   rw[rF hs];simp -dsimp only[go_sem,bW,jd];rw[oy]<;>simp -dsimp only[go_sem]
  have h5:τ 5 = .bp 5 1 0:=by
   rw[rF hs];simp -dsimp only[go_sem,bW,jd];rw[oy]<;>simp -dsimp only[go_sem]
  have b3:β 3=⟨1,[C.v (.int .i64 (v:Int))]⟩:=by
   rw[Cp hs];simp -dsimp only[go_sem,bW,eJ]
  have b5:β 5=⟨1,fr2 (o k)⟩:=by
   rw[Cp hs];simp -dsimp only[go_sem,bW,eJ]
  clear hs;generalize l[l.length-(k+1)]=y at *
  refine WP.end_k kd fun K hK=>?_;simp -dsimp only[go_sem,h12];refine hK _ _ ⟨rfl,?_⟩;refine WP.end_k kd fun K hK=>?_;simp -dsimp only[go_sem,h12,h3,h5,b3,b5];refine ap 6 [] false true ?_;simp -dsimp only[go_sem,h12,h3,h5,b3,b5];refine ao (Mf v hv) rfl ?_;simp -dsimp only[go_sem,h12,h3,h5,b3,b5,fr2];refine ao H1 rfl ?_;simp -dsimp only[go_sem,h12,h3,h5,b3,b5,fr2];refine ao H2 rfl ?_;simp -dsimp only[go_sem,h12,h3,h5,b3,b5,fr2];refine hK _ _ ⟨by simp -dsimp only[go_sem,b3],?_⟩;simp -dsimp only[go_sem,b3];rfl
 ·rintro cs γs rfl-hγ;obtain⟨g,rfl⟩:=List.length_eq_one_iff.1 hγ;rw[jA];rw[iy,jl];refine WPn.end_k kd fun K hK=>?_;dsimp only[List.map,setB];simp -dsimp only[go_sem,fr2];refine hK _ _ ⟨.inr rfl,?_⟩;simp -dsimp only[go_sem,fr2]
 ·intro e cs γs _ h;exact h.elim
end Go.AM
namespace Alg
open Classical
section
variable {F:Type} [CR F] [Fd F]
theorem X_c (i:Nat):(ak:P F).c i=if i=1 then 1 else 0:=rfl
theorem zb (c:F) (i:Nat):(ak-an c).c i=if i=0 then -c else if i=1 then 1 else 0:=by
 rw[jf,X_c]
 match i with
 | 0=>rw[if_neg aw,nn,if_pos rfl,sub_eq,zero_add]
 | 1=>rw[if_pos rfl,gS,sub_zero];rfl
 | i+2=>rw[if_neg aw,gS,sub_zero];rfl
theorem fp (c:F):aa (ak-an c)=2:=j8 (fun i hi=>by rw[zb,if_neg aw,if_neg aw]) fun _=>by rw[zb,if_neg aw,if_pos rfl];exact one_ne
theorem jL (c:F):(ak-an c:P F)≠0:=fun h=>by
 have:=fp c;rw[h,aM.2 rfl]at this;omega
theorem BG (c:F):lc (ak-an c)=1:=by rw[lc,fp,zb,if_neg aw,if_pos rfl]
theorem KT (c:F):der (ak-an c)=1:=by rw[Lr,Qf,Qg,sub_zero]
theorem Bx:aa (1:P F)=1:=jm (R:=F) one_ne
theorem vw {a b q r:P F} (h:a=q*b+r) (hr:aa r<aa b):ab a b=r:=(pf h hr).2
theorem PD {a b q r:P F} (h:a=q*b+r) (hr:aa r<aa b):qu a b=q:=(pf h hr).1
theorem w4 {a b q:P F} (hb:b≠0) (h:a=q*b):ab a b=0:=vw (q:=q) (by rw[h,add_zero]) (by rw[aM.2 rfl];exact aV hb)
theorem mQ {a b q:P F} (hb:b≠0) (h:a=q*b):qu a b=q:=PD (q:=q) (r:=0) (by rw[h,add_zero]) (by rw[aM.2 rfl];exact aV hb)
theorem jJ {a:P F} {c:F} (hc:c≠0):ab a (an c)=0:=w4 (q:=a*an (inv c)) (fV hc) (by rw[mul_assoc,<-bH,cV hc,cu,mul_one])
theorem eu1 {a b:P F} (hb:b≠0) (h:ab a b=0):eu a b=[(a,b)]:=by rw[kk hb,h,jo]
theorem eu2 {a b r:P F} (hb:b≠0) (h:ab a b=r) (hr:r≠0) (h2:ab b r=0):eu a b=[(a,b),(b,r)]:=by rw[kk hb,h,eu1 hr h2]
theorem eu3 {a b r s:P F} (hb:b≠0) (h:ab a b=r) (hr:r≠0) (h2:ab b r=s) (hs:s≠0) (h3:ab r s=0):eu a b=[(a,b),(b,r),(r,s)]:=by rw[kk hb,h,eu2 hr h2 hs h3]
theorem gd1 {a b:P F} (hb:b≠0) (h:ab a b=0):ai a b=mn b:=by
 rw[<-Is hb,h,pF]
theorem gd2 {a b r:P F} (hb:b≠0) (h:ab a b=r) (hr:r≠0) (h2:ab b r=0):ai a b=mn r:=by
 rw[<-Is hb,h,gd1 hr h2]
theorem mn_C {c:F} (hc:c≠0):mn (an c)=1:=by rw[mn,oD,<-bH,cV hc,cu]
theorem NX (c:F):mn (ak-an c)=ak-an c:=pt (BG c)
end
def PC (w:Nat) (p:P KQ):Prop:=∃(B:P Int) (A:Nat->P Int),B≠0/\(∀ i,p.c i*em (toQ B)=em (toQ (A i)))/\aa B<=w+1/\n1 B<=2 ^ w/\∀ i,aa (A i)<=w+1/\n1 (A i)<=2 ^ w
theorem PC.mono {w v:Nat} {p:P KQ} (h:PC w p) (hv:w<=v):PC v p:=by
 obtain⟨B,A,h1,h2,h3,h4,h5⟩:=h;exact⟨B,A,h1,h2,aw,ax h4 (cO hv),fun i=>⟨by have:=(h5 i).1;omega,ax (h5 i).2 (cO hv)⟩⟩
theorem PC.fb {w:Nat} {p:P KQ} (h:PC w p) (i:Nat):FB w (p.c i):=by
 obtain⟨B,A,h1,h2,h3,h4,h5⟩:=h;exact⟨A i,B,h1,Of (dx h1) (h2 i),(h5 i).1,(h5 i).2,h3,h4⟩
theorem wN {A:P Int}:toQ A=0↔A=0:=⟨fun h=>Classical.byContradiction fun h'=>dx h' h,fun h=>by rw[h,cX]⟩
theorem De {p:P KQ} {A:Nat->P Int} {B:P Int} (h:∀ i,p.c i*em (toQ B)=em (toQ (A i))) {i:Nat} (hi:p.c i=0):A i=0:=by
 have:=h i;rw[hi,zero_mul,<-nQ]at this;exact wN.1 (xo this).symm
theorem BA {H:Nat}:∀(n s:Nat) {f:Nat->Nat->P Int},(∀ i j,s<=i->f i j=0)->(∀ i j,n1 (f i j)<=H)->n1 (tri f n)<=s*H
 | 0,s,f,hz,hH=>by
  cases s with
  | zero=>simp only[tri];rw[hz 0 0 (ay _),iu];omega
  | succ s=>simp only[tri];exact ax (hH 0 0) (Nat.le_mul_of_pos_left _ aw)
 | n+1,s,f,hz,hH=>by
  simp only[tri];cases s with
  | zero =>
   rw[hz 0 _ (ay _),zero_add];exact BA n 0 (f:=fun i j=>f (i+1) j) (fun i j _=>hz _ _ aw) (fun i j=>hH _ _)
  | succ s =>
   have h1:=BA n s (f:=fun i j=>f (i+1) j) (fun i j h=>hz _ _ aw) (fun i j=>hH _ _);have h2:=lH (f 0 (n+1)) (tri (fun i j=>f (i+1) j) n);have h3:=hH 0 (n+1);rw[Nat.succ_mul];omega
theorem GV {N:Nat}:∀(n:Nat) {f:Nat->Nat->P Int},(∀ i j,aa (f i j)<=N)->aa (tri f n)<=N
 | 0,f,h=>h 0 0
 | n+1,f,h=>by
  simp only[tri];exact dh (h _ _) (GV n fun i j=>h _ _)
theorem IN:∀(n:Nat) (f:Nat->Nat->P Int),em (toQ (tri f n))=tri (fun i j=>em (toQ (f i j))) n
 | 0,f=>rfl
 | n+1,f=>by
  simp only[tri];rw[j6,ul,IN n]
theorem PC.mul {w v k:Nat} {p q:P KQ} (h:PC w p) (h':PC v q) (hk:aa p<=2 ^ k):PC (w+v+k) (p*q):=by
 obtain⟨B,A,h1,h2,h3,h4,h5⟩:=h;obtain⟨B',A',k1,k2,k3,k4,k5⟩:=h';refine⟨B*B',fun n=>tri (fun i j=>A i*A' j) n,a7 h1 k1,fun n=>?_,?_,?_,fun n=>⟨?_,?_⟩⟩
 ·rw[IN,hZ,mul_comm,<-rP];refine d6 fun i j _=>?_;rw[ck,oF,ck,oF,<-h2,<-k2];exact ring [p.c i,q.c j,em (toQ B),em (toQ B')]
 ·have:=fY h3 k3;omega
 ·exact ax (i7 _ _) (ax (bh h4 k4) (cO aw))
 ·exact ax (GV (N:=w+v+1) n (f:=fun i j=>A i*A' j) fun i j=>fY (h5 i).1 (k5 j).1) aw
 ·have:=BA (H:=2 ^ (w+v)) n (aa p) (f:=fun i j=>A i*A' j) (fun i j hi=>by rw[De h2 (aP hi),zero_mul]) fun i j=>ax (i7 _ _) (bh (h5 i).2 (k5 j).2);refine ax this (ax (bh hk (ay _)) (cO aw))
theorem PC.add {w v:Nat} {p q:P KQ} (h:PC w p) (h':PC v q):PC (w+v+1) (p+q):=by
 obtain⟨B,A,h1,h2,h3,h4,h5⟩:=h;obtain⟨B',A',k1,k2,k3,k4,k5⟩:=h';refine⟨B*B',fun i=>A i*B'+A' i*B,a7 h1 k1,fun i=>?_,?_,?_,fun i=>⟨?_,?_⟩⟩
 ·rw[cj,ck,oF,j6,ul,ck,oF,ck,oF,<-h2,<-k2];exact ring [p.c i,q.c i,em (toQ B),em (toQ B')]
 ·have:=fY h3 k3;omega
 ·exact ax (i7 _ _) (ax (bh h4 k4) (cO aw))
 ·refine dh ?_ ?_
  ·have:=fY (h5 i).1 k3;omega
  ·have:=fY (k5 i).1 h3;omega
 ·have e1:=ax (i7 (A i) B') (bh (h5 i).2 k4);have e2:=ax (i7 (A' i) B) (bh (k5 i).2 h4);rw[Nat.add_comm v w]at e2;exact ax (lH _ _) (jW e1 e2)
theorem PC.neg {w:Nat} {p:P KQ} (h:PC w p):PC w (-p):=by
 obtain⟨B,A,h1,h2,h3,h4,h5⟩:=h;exact⟨B,fun i => -A i,h1,fun i=>by rw[vU,neg_mul,h2,o8,B3],h3,h4,fun i=>by rw[kt,qA];exact h5 i⟩
theorem PC.sub {w v:Nat} {p q:P KQ} (h:PC w p) (h':PC v q):PC (w+v+1) (p-q):=by rw[sub_eq];exact h.add h'.neg
theorem PC.C {w:Nat} {c:KQ} (h:FB w c):PC w (an c):=by
 obtain⟨A,B,h1,h2,h3,h4,h5,h6⟩:=h;refine⟨B,fun i=>if i=0 then A else 0,h1,fun i=>?_,h5,h6,fun i=>?_⟩
 ·cases i with
  | zero=>dsimp only;rw[if_pos rfl,nn,h2,vN (dx h1)]
  | succ i=>dsimp only;rw[if_neg aw,gS,zero_mul,cX,nQ]
 ·dsimp only;split
  ·exact⟨h3,h4⟩
  ·exact⟨by rw[aM.2 rfl];omega,by rw[iu];exact Nat.zero_le _⟩
theorem PC.lin {w:Nat} {c:KQ} (h:FB w c):PC w (ak-an c):=by
 obtain⟨A,B,h1,h2,h3,h4,h5,h6⟩:=h;refine⟨B,fun i=>if i=0 then -A else if i=1 then B else 0,h1,fun i=>?_,h5,h6,fun i=>?_⟩
 ·dsimp only;rw[zb];by_cases h0:i=0
  ·rw[if_pos h0,if_pos h0,h2,neg_mul,vN (dx h1),o8,B3]
  ·rw[if_neg h0,if_neg h0];by_cases h9:i=1
   ·rw[if_pos h9,if_pos h9,one_mul]
   ·rw[if_neg h9,if_neg h9,zero_mul,cX,nQ]
 ·dsimp only;split
  ·exact⟨by rw[kt];exact h3,by rw[qA];exact h4⟩
  ·split
   ·exact⟨h5,h6⟩
   ·exact⟨by rw[aM.2 rfl];omega,by rw[iu];exact Nat.zero_le _⟩
theorem PO (n:Nat):n1 (nc n:P Int)<=n:=by
 induction n with
 | zero=>exact Nat.le_of_eq iu
 | succ n ih =>
  have h1:n1 (1:P Int)<=1:=by
   rw[gz (n:=1) (by rw[show aa (1:P Int)=1 from jm (R:=Int) aH];exact ay _)];exact ay 1
  have:=lH (nc n:P Int) 1;show n1 (nc n+1:P Int)<=_;omega
theorem Qa (n:Nat):em (toQ (nc n:P Int))=(nc n:KQ):=by
 induction n with
 | zero=>exact(congrArg em cX).trans nQ
 | succ n ih =>
  show em (toQ (nc n+1:P Int))=nc n+1;rw[j6,ul,ih,o7,Ol]
theorem Pu (n:Nat):aa (nc n:P Int)<=1:=by rw[<-OZ];exact cI fun i hi=>by cases i with|zero=>omega|succ i=>rfl
theorem PC.der {w k:Nat} {p:P KQ} (h:PC w p) (hk:aa p<=2 ^ k):PC (w+k) (der p):=by
 obtain⟨B,A,h1,h2,h3,h4,h5⟩:=h;refine⟨B,fun i=>if aa p<=i then 0 else nc (i+1)*A (i+1),h1,fun i=>?_,aw,ax h4 (cO aw),fun i=>?_⟩
 ·dsimp only;rw[jS,mul_assoc,h2];split
  ·rename_i hi;rw[De h2 (aP (p:=p) (i:=i+1) aw),cX,nQ,mul_zero]
  ·rw[ck,oF,Qa]
 ·dsimp only;split
  ·exact⟨by rw[aM.2 rfl];omega,by rw[iu];exact Nat.zero_le _⟩
  ·rename_i hi;refine⟨?_,?_⟩
   ·have:=bg (nc (i+1):P Int) (A (i+1));have:=Pu (i+1);have:=(h5 (i+1)).1;omega
   ·refine ax (i7 _ _) ?_;rw[Nat.add_comm w k];exact bh (ax (PO _) aw) (h5 _).2
end Alg
namespace Go.AM
open Alg
open Go.Proofs
open Classical
theorem PC.pw {w:Nat} {p:KP} (h:Alg.PC w p):PW w p:=fun i=>h.fb i
theorem wD2 (w v:Nat) {n:Nat} (h:n<=2):wD w v n<=4*w+6*v+3:=by
 refine ax (rO w v h) ?_;simp only[wD];omega
theorem uT {p q:KP} {w v:Nat} (hq0:q≠0) (hp:PW w p) (hq:PW v q) (hn:aa p<=aa q+1) (hb:4*w+6*v+3<=1000) (hs:aa q<=900):Fn Tryz.prog 82 [ku p,ku q] [ku (ab p q)] :=
 KReP hq0 hp hq (ax (wD2 w v aw) hb) aw aw aw
theorem Gd {p q:KP} {w v:Nat} (hq0:q≠0) (hp:PW w p) (hq:PW v q) (hn:aa p<=aa q+1) (hb:4*w+6*v+3<=1000) (hs:aa q<=900):Fn Tryz.prog 81 [ku p,ku q] [ku (qu p q)] :=
 OY hq0 hp hq (ax (wD2 w v aw) hb) aw aw aw
theorem M7 {a:KP} {w:Nat} (ha:PW w a) (hw:2*w<=1000) (hs:aa a<=900):Fn Tryz.prog 24 [ku a,ku 0] [ku (ai a 0)] :=
 xQ (fun x hx=>by rw[jo]at hx;simp at hx) (by rw[nf];exact p8 ha hw aw)
theorem M6 {a b:KP} {v:Nat} (hb0:b≠0) (hb:PW v b) (hv:2*v<=1000) (hs:aa b<=900) (hr:ab a b=0) (c1:Fn Tryz.prog 82 [ku a,ku b] [ku (ab a b)]):Fn Tryz.prog 24 [ku a,ku b] [ku (ai a b)] :=
 xQ (fun x hx=>by rw[eu1 hb0 hr]at hx;simp at hx;subst hx;exact c1) (by rw[pH hb0,hr,nf];exact p8 hb hv aw)
theorem M5 {a b r:KP} {v:Nat} (hb0:b≠0) (hr:ab a b=r) (hr0:r≠0) (h2:ab b r=0) (hw:PW v r) (hv:2*v<=1000) (hs:aa r<=900) (c1:Fn Tryz.prog 82 [ku a,ku b] [ku (ab a b)]) (c2:Fn Tryz.prog 82 [ku b,ku r] [ku (ab b r)]):Fn Tryz.prog 24 [ku a,ku b] [ku (ai a b)] :=
 xQ (fun x hx=>by
  rw[eu2 hb0 hr hr0 h2]at hx;simp at hx;rcases hx with rfl|rfl
  ·exact c1
  ·exact c2) (by rw[pH hb0,hr,pH hr0,h2,nf];exact p8 hw hv aw)
theorem QB1 (k:Nat) (h:2<=k):QB k 1:=⟨ax (fq (k:=1) aH) aw,ax (fq (k:=1) aH) aw⟩
def T1 (t:Tm):Prop:=cP t.1/\t.1.lt 1099511627776/\t.2=1
theorem T1.tok {t:Tm} (h:T1 t):Tok t:=⟨h.1,h.2.1,by rw[h.2.2];decide,by rw[h.2.2];exact QB1 _ aw⟩
theorem T1.q {t:Tm} (h:T1 t) {k:Nat} (hk:2<=k):QB k t.2:=by rw[h.2.2];exact QB1 _ hk
theorem T1.l {t:Tm} (h:T1 t):t.1.lt 2305843009213693952:=by
 obtain⟨-,h,-⟩:=h;unfold Ex.lt at h ⊢;omega
abbrev ma:List Tm:=[(⟨1,0,0,0⟩,1)]
abbrev mb:List Tm:=[(⟨0,1,0,0⟩,1)]
abbrev mbb:List Tm:=[(⟨0,2,0,0⟩,1)]
abbrev mabb:List Tm:=[(⟨1,2,0,0⟩,1)]
abbrev mab:List Tm:=[(⟨1,1,0,0⟩,1)]
abbrev mab1:List Tm:=[(⟨1,1,0,0⟩,1),(e0,1)]
abbrev mL:List Tm:=[(⟨1,2,0,0⟩,1),(⟨0,1,0,0⟩,1)]
theorem ou (a b:Nat) (ha:a<=5) (hb:b<=5):T1 (⟨a,b,0,0⟩,1):=⟨by simp[cP],by simp[Ex.lt];omega,rfl⟩
theorem qg {L:List Tm} (h:∃ l:List (Nat×Nat),L=l.map (fun p=>((⟨p.1,p.2,0,0⟩:Ex),(1:Rat)))/\∀ p∈l,p.1<=5/\p.2<=5):∀ t∈L,T1 t:=by
 obtain⟨l,rfl,h⟩:=h;intro t ht;obtain⟨p,hp,rfl⟩:=List.mem_map.1 ht;exact ou _ _ (h p hp).1 (h p hp).2
theorem PP (t u:Tm) (hu:u.2=1):tD [t] [u]=[(t.1.add u.1,t.2)]:=by
 simp only[tD,List.foldl_cons,List.foldl_nil,gT,fe,mX,hu,List.map_cons,List.map_nil];rw[if_neg aH,show t.2*(1:Rat)=t.2 from Rat.mul_one _]
theorem M3 (t u:Tm) (ht:T1 t) (hu:T1 u):Fn Tryz.prog 57 [iM [t],iM [u]] [iM [(t.1.add u.1,1)]]:=by
 have:=Ag [t] [u] au au (fun x hx=>by simp at hx;subst hx;exact ht.q aw) (fun x hx=>by simp at hx;subst hx;exact hu.q aw) (fun x hx=>by simp at hx;subst hx;exact ht.l) (fun x hx=>by simp at hx;subst hx;exact hu.l)
  (fun i hi=>by
   obtain rfl:i=0:=by simp at hi;omega
   refine⟨fun x hx=>by simp[tD]at hx,fun x hx=>?_,by simp[tD]⟩;simp only[List.getElem_cons_zero,fe,mX,hu.2.2,List.map_cons,List.map_nil]at hx;rw[if_neg aH]at hx;simp at hx;subst hx;rw[ht.2.2];exact QB1 _ aw)
 rwa [PP _ _ hu.2.2,ht.2.2]at this
theorem Px:Fn Tryz.prog 57 [iM mb,iM mb] [iM mbb]:=M3 _ _ (ou 0 1 aw aw) (ou 0 1 aw aw)
theorem My:Fn Tryz.prog 57 [iM ma,iM mbb] [iM mabb]:=M3 _ _ (ou 1 0 aw aw) (ou 0 2 aw aw)
theorem Qn:gu mabb mb=mL:=by
 rw[jC,if_pos aH,gT]
theorem sML:Fn Tryz.prog 56 [iM mabb,iM mb] [iM mL]:=by
 have:=pU mabb mb au (fun x hx=>by simp at hx;subst hx;exact QB1 _ aw) (fun x hx=>by simp at hx;subst hx;exact QB1 _ aw);rwa [Qn]at this
abbrev cs3:List F2:=[([],one1),(one1,one1),(ma,one1)]
theorem Pz:Fn Tryz.prog 43 [iM mL,iN 1] [fl cs3]:=by
 have h:=wz mL 1 aw au (fun t ht=>by
  simp at ht;rcases ht with rfl|rfl
  ·exact⟨aH,aH⟩
  ·exact⟨aH,aH⟩) aH au
 rw[show pK mL 1=[[],one1,ma]by decide +kernel]at h;exact Me (v:=1) au h
theorem If (n:PQ):kr (Alg.em n)=fr2 (U n,one1):=by
 obtain⟨h1,h2⟩:=HP n;rw[kr,h1,h2,vY];rfl
theorem Dq:kr 0=fr2 ([],one1):=by
 have:=If 0;rwa [cp]at this
theorem U_Xm:U ak=ma:=Ac 1 aH
noncomputable abbrev xK:KQ:=Alg.em ak
theorem Oq:fl cs3=kl [0,1,xK]:=by
 have e1:kr 1=fr2 (one1,one1):=by
  have:=If 1;rwa [vY]at this
 have e2:kr xK=fr2 (ma,one1):=by
  have:=If ak;rwa [U_Xm]at this
 show IV.c (.lst _)=IV.c (.lst _);simp only[List.map_cons,List.map_nil,Dq,e1,e2]
theorem M4 (a:List Tm) (u:Tm) (R:List Tm) (ha:∀ t∈a,T1 t) (hu:T1 u) (hl:a.length<=2) (hm:Fr a [u]=R) (hq:∀ i<a.length,∀ e q,(e,q)∈sumM (a.take i) [u] []->q=1):Fn Tryz.prog 111 [iM a,iM [u]] [iM R]:=by
 have:=xO a [u] aw au (fun t ht=>(ha t ht).l) (fun t ht=>by simp at ht;subst ht;exact hu.l) (fun t ht=>(ha t ht).q aw) (fun t ht=>by simp at ht;subst ht;exact hu.q aw)
  (by
   intro i j hi hj;have hj':j<1:=hj;obtain rfl:j=0:=aw;refine⟨?_,fun e q hq'=>?_⟩
   ·show QB _ (a[i].2*u.2);rw[(ha _ (List.getElem_mem hi)).2.2,hu.2.2,show(1:Rat)*1=1 from Rat.mul_one 1];exact QB1 8589934592 aw
   ·rw[hq i hi e q hq'];exact QB1 _ aw)
 rwa [hm]at this
theorem same1:Fn Tryz.prog 138 [iM one1,iM one1] [iB true]:=by
 have:=qc one1 one1 au (fun t ht=>by simp at ht;subst ht;exact QB1 _ aw) (fun t ht=>by simp at ht;subst ht;exact QB1 _ aw);rwa [aF rfl]at this
theorem mul11:Fn Tryz.prog 111 [iM one1,iM one1] [iM one1]:=M4 one1 (e0,1) one1 (qg ⟨[(0,0)],rfl,au⟩) (ou 0 0 aw aw) au aE (fun i hi e q h=>by
 obtain rfl:i=0:=by simp at hi;omega
 simp[sumM]at h)
theorem JT (a:List Tm) (u:Tm) (R:List Tm) (ha:∀ t∈a,T1 t) (hu:T1 u) (hl:a.length<=2) (hm:Fr a [u]=R) (hq:∀ i<a.length,∀ e q,(e,q)∈sumM (a.take i) [u] []->q=1) (hR:∀ t∈R,T1 t) (lR:R.length<=2) :
  Fn Tryz.prog 65 [iF a one1,iF [u] one1] [iF R one1]:=Ea (M4 a u R ha hu hl hm hq) mul11 (Ax R aw fun t ht=>(hR t ht).tok)
theorem JU (a b R:List Tm) (ha:∀ t∈a,T1 t) (hb:∀ t∈b,T1 t) (hla:a.length<=2) (hlb:b.length<=2) (hm:gu a b=R) (hR:∀ t∈R,T1 t) (lR:R.length<=2):Fn Tryz.prog 64 [iF a one1,iF b one1] [iF R one1]:=by
 have h:=xP a b aw (fun t ht=>(ha t ht).q aw) (fun t ht=>(hb t ht).q aw);rw[hm]at h;exact Eb (qa same1 h (Ax R aw fun t ht=>(hR t ht).tok)) ⟨_,_,rfl⟩ ⟨_,_,rfl⟩ ⟨_,_,rfl⟩
def oT:Nat->F2
 | 0=>([],one1)
 | 1=>(ma,one1)
 | 2=>(mab1,one1)
 | _=>(mL,one1)
theorem sTo:Fn Tryz.prog 48 [fl cs3,iN 1] [iF mL one1]:=by
 have ta:∀ t∈ma,T1 t:=qg ⟨[(1,0)],rfl,au⟩;have t1:∀ t∈one1,T1 t:=qg ⟨[(0,0)],rfl,au⟩;have tab:∀ t∈mab,T1 t:=qg ⟨[(1,1)],rfl,au⟩;have tab1:∀ t∈mab1,T1 t:=qg ⟨[(1,1),(0,0)],rfl,au⟩;have tL:∀ t∈mL,T1 t:=qg ⟨[(1,2),(0,1)],rfl,au⟩;have t0:∀ t∈([]:List Tm),T1 t:=au;have tb:T1 (⟨0,1,0,0⟩,1):=ou 0 1 aw aw;refine Qu cs3 1 aw au oT ?_ fun k hk=>?_
 ·have:=cx 0 aH;have e:IV.g (fr2 (oT 0))=iK (kn 0):=by
   rw[fi];show IV.g (fr2 ([],one1))=IV.g (kr 0);rw[Dq]
  rw[e];exact this
 ·have hk3:k<3:=hk;obtain rfl|rfl|rfl:k=0\/k=1\/k=2:=aw
  ·exact⟨([],one1),JT [] _ [] t0 tb au aE (fun i hi=>absurd hi au) t0 au,JU [] ma ma t0 ta au au (gT _) ta au⟩
  ·refine⟨(mab,one1),JT ma _ mab ta tb au aE (fun i hi e q h=>?_) tab au,JU mab one1 mab1 tab t1 au au ?_ tab1 au⟩
   ·obtain rfl:i=0:=by simp at hi;omega
    simp[sumM]at h
   ·rw[jC,if_pos aH,gT]
  ·refine⟨(mL,one1),JT mab1 _ mL tab1 tb au aE (fun i hi e q h=>?_) tL au,JU mL [] mL tL t0 au au (jB _) tL au⟩;have hi':i<2:=hi;obtain rfl|rfl:i=0\/i=1:=aw
   ·simp[sumM]at h
   ·simp[sumM,rowM,addT]at h;exact h.2
theorem Pw:Fn Tryz.prog 49 [iM mL] [iF mL one1]:=by
 have:=wi mL;rwa [vY]at this
theorem NL:Fn Tryz.prog 41 [iF mL one1,iF mL one1] [iB true]:=by
 have tq:∀ L:List Tm,(L=mL\/L=one1)->∀ t∈L,QB 17179869184 t.2:=fun L hL t ht=>by
  rcases hL with rfl|rfl<;>simp at ht
  ·rcases ht with rfl|rfl<;>exact QB1 _ aw
  ·subst ht;exact QB1 _ aw
 have e1:=qP mL mL au (tq _ (.inl rfl)) (tq _ (.inl rfl));have e2:=qP one1 one1 au (tq _ (.inr rfl)) (tq _ (.inr rfl));rw[aF rfl]at e1 e2;have h87:Fn Tryz.prog 87 [iF mL one1,iF mL one1] [iB true]:=by
  refine aJ (fn:=Tryz.f87) ?_;simp -dsimp only[go_sem,Int.reduceToNat,Int.reduceLE,aC];refine ao e1 rfl ?_;simp -dsimp only[go_sem,Int.reduceToNat,Int.reduceLE,aC];refine ao e2 rfl ?_;simp -dsimp only[go_sem]
 refine aJ (fn:=Tryz.f41) ?_;simp -dsimp only[go_sem];refine ao h87 rfl ?_;simp -dsimp only[go_sem]
end Go.AM
namespace Alg
open Classical
section
variable {F:Type} [CR F] [Fd F]
theorem KS (a b:F):(ak-an a)-(ak-an b)=an (b-a):=by rw[M8];exact ring [ak,an a,an b]
theorem NJ {a b:F} (h:a≠b):b-a≠0:=fun e=>h (by
 have:=congrArg (· + a) e;simp only[sub_eq,zero_add]at this;rw[add_assoc,neg_add,add_zero]at this;exact this.symm)
theorem div9 {t:F} (ht:t*ic 9=1) (f g:P F):f*g=an t*(f+f+g)*(g+g+f)+(-(an t*ic 2*(f-g)*(f-g))):=by
 have e:an t*(ic 9:P F)=1:=by rw[<-QA,<-bH,ht,cu]
 have h:f*g*(an t*ic 9)=an t*(f+f+g)*(g+g+f)+(-(an t*ic 2*(f-g)*(f-g))):=ring [f,g,an t];rwa [e,mul_one]at h
theorem N8 {t a b:F} : -(an t*ic 2*((ak-an a)-(ak-an b))*((ak-an a)-(ak-an b)))=an (-(t*ic 2*(b-a)*(b-a))):=by
 rw[KS,lh,bH,bH,bH,QA]
theorem H3 (c:F):(ak-an c).c 1=1:=by rw[zb,if_neg aw,if_pos rfl]
theorem mG (a b:F) (h3:(ic 3:F)≠0):aa ((ak-an b)+(ak-an b)+(ak-an a))=2:=j8 (fun i hi=>by rw[cj,cj,aP (by rw[fp];omega),aP (by rw[fp];omega),add_zero,add_zero]) fun _=>by
 show((ak-an b)+(ak-an b)+(ak-an a)).c 1≠0;rw[cj,cj,H3,H3];intro e;refine h3 ?_;rw[<-e];exact ring []
theorem k_ne {t a b:F} (h:a≠b) (ht:t≠0) : -(t*(b-a)*(b-a))≠0:=fun e=>by
 have h1:=NJ h;have h2:t*(b-a)*(b-a)=0:=by
  have:=congrArg (fun x => -x) e;rwa [neg_neg,gL]at this
 exact a7 (a7 ht h1) h1 h2
end
end Alg
