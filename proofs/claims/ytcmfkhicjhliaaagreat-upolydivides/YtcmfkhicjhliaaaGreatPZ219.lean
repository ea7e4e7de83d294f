/- Lemmas, part 20 of 24: Reference R7: insertion of a term; Reference R7 on polynomials in one variable; Reference R7: degrees and coefficients; Reference R7: division; Reference R7: coefficients, powers, pseudo remainders in one variable; Reference R8: normal forms, contents. No condition. -/
import Derived.Test.YtcmfkhicjhliaaaGreatPZ218
set_option maxRecDepth 65536
set_option linter.unusedSimpArgs false
set_option linter.unusedVariables false
set_option linter.unusedSectionVars false
namespace Go.AM
open Go.Proofs
def atR:List Tm->Ex->Nat
 | [],_=>0
 | x::p,e=>if 0<bO x.1 e then atR p e+1 else 0
theorem Il (e:Ex):∀ p:List Tm,atR p e<=p.length
 | []=>ae _
 | x::p=>by unfold atR;have:=Il e p;split<;>simp<;>omega
theorem Ik (e:Ex):∀(p:List Tm) (i:Nat) (_:i<atR p e) (h:i<p.length),0<bO p[i].1 e
 | [],_,h,_=>by simp[atR]at h
 | x::p,i,h,hl=>by
  unfold atR at h;split at h
  ·rcases i with _|i
   ·assumption
   ·exact Ik e p i (by omega) (by simpa using hl)
  ·omega
theorem Dd (e:Ex):∀(p:List Tm) (h:atR p e<p.length),¬ 0<bO (p[atR p e]'h).1 e
 | [],h=>by simp at h
 | x::p,h=>by
  by_cases hx:0<bO x.1 e
  ·have h1:atR (x::p) e=atR p e+1:=by rw[atR,if_pos hx]
   have h2:atR p e<p.length:=by rw[h1]at h;simpa using h
   have:=Dd e p h2;simp only[h1,List.getElem_cons_succ];exact this
  ·have h1:atR (x::p) e=0:=by rw[atR,if_neg hx]
   simp only[h1,List.getElem_cons_zero];exact hx
def pY (m:Tm):List Tm->Rat×List Tm
 | []=>(m.2,[])
 | x::r=>if x.1=m.1 then(m.2+x.2,r)else(m.2,x::r)
def nE (p:List Tm) (m:Tm):List Tm :=
 p.take (atR p m.1)++((if(pY m (p.drop (atR p m.1))).1≠0/\cr m.1 then[(m.1,(pY m (p.drop (atR p m.1))).1)]else[])++(pY m (p.drop (atR p m.1))).2)
theorem f8 {rows:List (List C)} {N:Nat} {L:List Tm} (h:rows=L.map eT) (hN:rows.length<=N):some [IV.c (.lst (rows.take N))]=some [iM L]:=by
 rw[List.take_of_length_le hN,h]
set_option maxHeartbeats 1000000 in
theorem BV (p:List Tm) (m:Tm) (hl:p.length<=1048576) (hp:∀ t∈p,QB 8589934592 t.2) (hm:QB 8589934592 m.2):Fn Tryz.prog 122 [iM p,.g (eT m)] [iM (nE p m)]:=by
 have hat:=Il m.1 p;refine ak (fn:=Tryz.f122) (by rfl) rfl rfl rfl (by rfl) ?_;simp -dsimp -implicitDefEqProofs only[go_sem];refine aJ [(5,5),(8,23)] [] [] (fun n τ β ε=>∃ i:Nat,n=p.length-i/\i<=atR p m.1/\τ 5 = .i (iN i))
  (fun e τ β ε=>e = .exit 0/\τ 5 = .i (iN (atR p m.1))) p.length ?_ ?_ ?_
 ·exact⟨0,by omega,by omega,rfl⟩
 ·rintro n τ β ε π hK hKB hKE ⟨i,hn,hi,h5⟩;have k0:τ 0 = .i (iM p):=(hK 0 rfl).trans rfl;have k3:τ 3 = .bp 3 1 0:=(hK 3 rfl).trans rfl;have b3:β 3=⟨1,eT m⟩:=(hKB 3 rfl).trans rfl;refine ao (by rfl) 14 [] false true (by rfl) (by rfl) (by decide +kernel) ?_;by_cases hA:i<p.length
  ·have dA:decide ((i:Int)<(p.length:Int))=true:=ai (by omega);have gp:p[i]?=some p[i]:=by simp[hA]
   simp -dsimp -implicitDefEqProofs only[go_sem,h5,k0,k3,b3,dA,af];refine av gp ?_;simp -dsimp -implicitDefEqProofs only[go_sem,h5,k0,k3,b3,dA,af,Int.reduceToNat,Int.reduceLE,ag];refine ar (args':=[iE p[i].1,iE m.1]) rfl (jU _ _) ?_;by_cases hi':i<atR p m.1
   ·have e1:decide (0<bO p[i].1 m.1)=true:=ai (Ik _ _ _ hi' _);simp -dsimp -implicitDefEqProofs only[go_sem,e1,h5]
    repeat(refine And.intro (by omega) ?_)
    refine again (p.length-(i+1)) (by omega) ⟨(by(repeat apply am rfl);exact hK),hKB,hKE,i+1,rfl,by omega,rfl⟩
   ·obtain rfl:i=atR p m.1:=by omega
    have e1:decide (0<bO (p[atR p m.1]).1 m.1)=false:=aj (Dd _ _ hA);simp -dsimp -implicitDefEqProofs only[go_sem,e1];exact⟨(by(repeat apply am rfl);exact hK),hKB,hKE,h5⟩
  ·have dA:decide ((i:Int)<(p.length:Int))=false:=aj (by omega);obtain rfl:i=atR p m.1:=by omega
   simp -dsimp -implicitDefEqProofs only[go_sem,h5,k0,k3,b3,dA,af];exact⟨(by(repeat apply am rfl);exact hK),hKB,hKE⟩
 ·rintro e τ β ε π hK hKB hKE ⟨rfl,h5⟩;have k0:τ 0 = .i (iM p):=(hK 0 rfl).trans rfl;have k3:τ 3 = .bp 3 1 0:=(hK 3 rfl).trans rfl;have b3:β 3=⟨1,eT m⟩:=(hKB 3 rfl).trans rfl;unfold nE;generalize atR p m.1=q at *
  simp -dsimp -implicitDefEqProofs only[go_sem,h5,k0,k3,b3,Int.reduceToNat,Int.reduceLE,ag,af];refine⟨hat,?_,by omega,hat,?_⟩
  ·intro r hr;obtain⟨t,-,rfl⟩:=List.mem_map.1 (List.mem_of_mem_take hr);rfl
  have lt:(p.take q).length=q:=by simp;omega
  rcases hr:p.drop q with _|⟨x,r⟩
  ·have dr:(p.map eT).drop q=[]:=by rw[<-List.map_drop,hr];rfl
   have dl:p.length-q=0:=by have:=congrArg List.length hr;simpa using this
   rw[show(pY m []).1=m.2 from rfl,show(pY m []).2=[]from rfl];refine ao (by rfl) 12 [] false true (by rfl) (by rfl) (by decide +kernel) ?_;simp -dsimp -implicitDefEqProofs only[go_sem,k0,k3,b3,Int.reduceToNat,Int.reduceLE,ag,af,dr,dl,d00];refine aa (gP m.2) rfl ?_;by_cases h0:m.2=0
   ·have e3:decide ((m.2).num.sign=0)=true:=by rw[bt];exact ai h0
    have e4:¬ (m.2≠0/\cr m.1):=fun h=>h.1 h0;rw[if_neg e4];simp -dsimp -implicitDefEqProofs only[go_sem,e3,k0,k3,b3,Int.reduceToNat,Int.reduceLE,ag,af,dr,dl]
    repeat(refine And.intro (by first|omega|(simp<;>omega)|simp) ?_)
    exact f8 (by simp[List.map_take]<;>first|rfl|exact⟨rfl,rfl⟩) (by simp<;>omega)
   ·have e3:decide ((m.2).num.sign=0)=false:=by rw[bt];exact aj h0
    simp -dsimp -implicitDefEqProofs only[go_sem,e3,k0,k3,b3,Int.reduceToNat,Int.reduceLE,ag,af,dr,dl];refine aa (fT m.1) rfl ?_;by_cases hN:cr m.1
    ·have eN:decide (cr m.1)=true:=ai hN;rw[if_pos ⟨h0,hN⟩];simp -dsimp -implicitDefEqProofs only[go_sem,eN,k0,k3,b3,Int.reduceToNat,Int.reduceLE,ag,af,dr,dl]
     repeat(refine And.intro (by first|omega|(simp<;>omega)|simp) ?_)
     exact f8 (by simp[List.map_take]<;>first|rfl|exact⟨rfl,rfl⟩) (by simp<;>omega)
    ·have eN:decide (cr m.1)=false:=aj hN;rw[if_neg fun h=>hN h.2];simp -dsimp -implicitDefEqProofs only[go_sem,eN,k0,k3,b3,Int.reduceToNat,Int.reduceLE,ag,af,dr,dl]
     repeat(refine And.intro (by first|omega|(simp<;>omega)|simp) ?_)
     exact f8 (by simp[List.map_take]<;>first|rfl|exact⟨rfl,rfl⟩) (by simp<;>omega)
  ·have dr:(p.map eT).drop q=(x::r).map eT:=by rw[<-List.map_drop,hr]
   have dl:p.length-q=(x::r).length:=by have:=congrArg List.length hr;simpa using this
   have dt:((x::r).map eT).drop 1=r.map eT:=rfl;have dq:decide ((0:Int)<((r.length+1:Nat):Int))=true:=ai (by omega);have gx:(x::r)[0]?=some x:=rfl;have hx:QB 8589934592 x.2:=hp x (List.mem_of_mem_drop (i:=q) (by rw[hr];simp));have hrl:r.length+1<=p.length:=by have:=congrArg List.length hr;simp at this;omega
   refine ao (by rfl) 12 [] false true (by rfl) (by rfl) (by decide +kernel) ?_;simp -dsimp -implicitDefEqProofs only[go_sem,k0,k3,b3,Int.reduceToNat,Int.reduceLE,ag,af,dr,dl,dq];refine rN (e:=x.1) (f:=m.1) ?_;by_cases hxm:x.1=m.1
   ·have e1:decide (x.1=m.1)=true:=ai hxm;rw[show pY m (x::r)=(m.2+x.2,r)from if_pos hxm];simp -dsimp -implicitDefEqProofs only[go_sem,e1];refine ao (by rfl) 8 [] false true (by rfl) (by rfl) (by decide +kernel) ?_;simp -dsimp -implicitDefEqProofs only[go_sem,k0,k3,b3,Int.reduceToNat,Int.reduceLE,ag,af,dr,dl,dq];refine ar (args':=[iQ m.2,iQ x.2]) rfl (uo _ _ hm hx) ?_;simp -dsimp -implicitDefEqProofs only[go_sem,k0,k3,b3,Int.reduceToNat,Int.reduceLE,ag,af,dr,dl,dt];refine aa (gP (m.2+x.2)) rfl ?_;by_cases h0:(m.2+x.2)=0
    ·have e3:decide (((m.2+x.2)).num.sign=0)=true:=by rw[bt];exact ai h0
     have e4:¬ ((m.2+x.2)≠0/\cr m.1):=fun h=>h.1 h0;rw[if_neg e4];simp -dsimp -implicitDefEqProofs only[go_sem,e3,k0,k3,b3,Int.reduceToNat,Int.reduceLE,ag,af,dr,dl]
     repeat(refine And.intro (by first|omega|(simp<;>omega)|simp) ?_)
     exact f8 (by simp[List.map_take]<;>first|rfl|exact⟨rfl,rfl⟩) (by simp<;>omega)
    ·have e3:decide (((m.2+x.2)).num.sign=0)=false:=by rw[bt];exact aj h0
     simp -dsimp -implicitDefEqProofs only[go_sem,e3,k0,k3,b3,Int.reduceToNat,Int.reduceLE,ag,af,dr,dl];refine aa (fT m.1) rfl ?_;by_cases hN:cr m.1
     ·have eN:decide (cr m.1)=true:=ai hN;rw[if_pos ⟨h0,hN⟩];simp -dsimp -implicitDefEqProofs only[go_sem,eN,k0,k3,b3,Int.reduceToNat,Int.reduceLE,ag,af,dr,dl]
      repeat(refine And.intro (by first|omega|(simp<;>omega)|simp) ?_)
      exact f8 (by simp[List.map_take]<;>first|rfl|exact⟨rfl,rfl⟩) (by simp<;>omega)
     ·have eN:decide (cr m.1)=false:=aj hN;rw[if_neg fun h=>hN h.2];simp -dsimp -implicitDefEqProofs only[go_sem,eN,k0,k3,b3,Int.reduceToNat,Int.reduceLE,ag,af,dr,dl]
      repeat(refine And.intro (by first|omega|(simp<;>omega)|simp) ?_)
      exact f8 (by simp[List.map_take]<;>first|rfl|exact⟨rfl,rfl⟩) (by simp<;>omega)
   ·have e1:decide (x.1=m.1)=false:=aj hxm;rw[show pY m (x::r)=(m.2,x::r)from if_neg hxm];simp -dsimp -implicitDefEqProofs only[go_sem,k0,k3,b3,Int.reduceToNat,Int.reduceLE,ag,af,dr,dl,e1];refine aa (gP m.2) rfl ?_;by_cases h0:m.2=0
    ·have e3:decide ((m.2).num.sign=0)=true:=by rw[bt];exact ai h0
     have e4:¬ (m.2≠0/\cr m.1):=fun h=>h.1 h0;rw[if_neg e4];simp -dsimp -implicitDefEqProofs only[go_sem,e3,k0,k3,b3,Int.reduceToNat,Int.reduceLE,ag,af,dr,dl]
     repeat(refine And.intro (by first|omega|(simp<;>omega)|simp) ?_)
     exact f8 (by simp[List.map_take]<;>first|rfl|exact⟨rfl,rfl⟩) (by simp<;>omega)
    ·have e3:decide ((m.2).num.sign=0)=false:=by rw[bt];exact aj h0
     simp -dsimp -implicitDefEqProofs only[go_sem,e3,k0,k3,b3,Int.reduceToNat,Int.reduceLE,ag,af,dr,dl];refine aa (fT m.1) rfl ?_;by_cases hN:cr m.1
     ·have eN:decide (cr m.1)=true:=ai hN;rw[if_pos ⟨h0,hN⟩];simp -dsimp -implicitDefEqProofs only[go_sem,eN,k0,k3,b3,Int.reduceToNat,Int.reduceLE,ag,af,dr,dl]
      repeat(refine And.intro (by first|omega|(simp<;>omega)|simp) ?_)
      exact f8 (by simp[List.map_take]<;>first|rfl|exact⟨rfl,rfl⟩) (by simp<;>omega)
     ·have eN:decide (cr m.1)=false:=aj hN;rw[if_neg fun h=>hN h.2];simp -dsimp -implicitDefEqProofs only[go_sem,eN,k0,k3,b3,Int.reduceToNat,Int.reduceLE,ag,af,dr,dl]
      repeat(refine And.intro (by first|omega|(simp<;>omega)|simp) ?_)
      exact f8 (by simp[List.map_take]<;>first|rfl|exact⟨rfl,rfl⟩) (by simp<;>omega)
def mv (l:List Tm):List Tm:=l.foldl nE []
theorem zz (l:List Tm) (hl:l.length<=1048576) (hb:∀ t∈l,QB 8589934592 t.2)
  (hq:∀(i:Nat) (_:i<l.length),(∀ t∈mv (l.take i),QB 8589934592 t.2)/\(mv (l.take i)).length<=1048576):Fn Tryz.prog 88 [iM l] [iM (mv l)]:=by
 refine ak (fn:=Tryz.f88) (by rfl) rfl rfl rfl (by rfl) ?_;simp -dsimp -implicitDefEqProofs only[go_sem];refine ni (aY.imm _ 3 (x:=iM []) rfl) ?_;refine aJ [(3,4),(6,17)] [] [] (fun n τ β ε=>∃ i:Nat,n=l.length-i/\i<=l.length/\τ 4 = .i (iN i)/\τ 3 = .i (iM (mv (l.take i))))
  (fun e τ β ε=>e = .exit 0/\τ 3 = .i (iM (mv l))) l.length ?_ ?_ ?_
 ·exact⟨0,by omega,by omega,rfl,rfl⟩
 ·rintro n τ β ε π hK hKB hKE ⟨i,hn,hi,h6,h5⟩;have k0:τ 0 = .i (iM l):=(hK 0 rfl).trans rfl;by_cases hA:i<l.length
  ·have dA:decide ((i:Int)<(l.length:Int))=true:=ai (by omega);have gb:l[i]?=some l[i]:=by simp[hA]
   obtain⟨q1,q2⟩:=hq i hA;simp -dsimp -implicitDefEqProofs only[go_sem,h6,h5,k0,dA,af];refine av gb ?_;simp -dsimp -implicitDefEqProofs only[go_sem,h6,h5,k0,dA,af,Int.reduceToNat,Int.reduceLE,ag];refine ar (args':=[iM (mv (l.take i)),.g (eT l[i])]) rfl (BV _ l[i] q2 q1 (hb _ (List.getElem_mem _))) ?_;simp -dsimp -implicitDefEqProofs only[go_sem,h6]
   repeat(refine And.intro (by omega) ?_)
   refine again (l.length-(i+1)) (by omega) ⟨(by(repeat apply am rfl);exact hK),hKB,hKE,i+1,rfl,by omega,rfl,?_⟩
   simp -dsimp -implicitDefEqProofs only[go_sem];rw[ab hA];unfold mv;rw[List.foldl_append];rfl
  ·have dA:decide ((i:Int)<(l.length:Int))=false:=aj (by omega);obtain rfl:i=l.length:=by omega
   rw[List.take_length]at h5;simp -dsimp -implicitDefEqProofs only[go_sem,h6,k0,dA,af];exact⟨(by(repeat apply am rfl);exact hK),hKB,hKE,h5⟩
 ·rintro e τ β ε π hK hKB hKE ⟨rfl,h5⟩;simp -dsimp -implicitDefEqProofs only[go_sem,h5]
theorem EP (e:Ex) (c:Rat) (he:cr e):mv [(e,c)]=if c=0 then[]else[(e,c)]:=by
 show nE [] (e,c)=_;simp only[nE,atR,List.take_nil,List.nil_append,List.drop_nil,pY,List.append_nil];by_cases h:c=0<;>simp[h,he]
theorem JX:cr e0:=by unfold cr e0;decide
theorem ny (c:Rat) (hc:QB 8589934592 c):Fn Tryz.prog 115 [iQ c] [iM (fL c)]:=by
 refine ak (fn:=Tryz.f115) (by rfl) rfl rfl rfl (by rfl) ?_;simp -dsimp -implicitDefEqProofs only[go_sem];refine ar (args':=[iM [(e0,c)]]) rfl (zz [(e0,c)] (by simp) (by simpa using hc) ?_) ?_
 ·intro i hi;obtain rfl:i=0:=by simp at hi;omega
  exact⟨by simp[mv],by simp[mv]⟩
 rw[EP _ _ JX];simp -dsimp -implicitDefEqProofs only[go_sem];rfl
theorem oo {n:Int} (h : -9223372036854775808<=n/\n<9223372036854775808) (k:Nat) (hk:3<=k):QB k (n:Rat):=by
 refine gB (h:=64) ?_ ?_ (by omega)
 ·rw[Rat.num_intCast];omega
 ·rw[Rat.den_intCast];decide
theorem Fq (n:Int) (h : -9223372036854775808<=n/\n<9223372036854775808):Fn Tryz.prog 204 [iN n] [iM (fL n)]:=by
 refine ak (fn:=Tryz.f204) (by rfl) rfl rfl rfl (by rfl) ?_;simp -dsimp -implicitDefEqProofs only[go_sem];refine an (cY n h) ?_;simp -dsimp -implicitDefEqProofs only[go_sem];refine ar (args':=[iQ (n:Rat)]) rfl (ny (n:Rat) (oo h _ (by decide))) ?_;simp -dsimp -implicitDefEqProofs only[go_sem]
end Go.AM
namespace Go.AM
open Alg
open Go.Proofs
theorem IG {p q:PQ} {h k:Nat} (hp:Alg.HB h p) (hq:Alg.HB k q) (hh:h<=137438953000) (hk:k<=137438953000) (sp:Alg.sz p<=1048576) (sq:Alg.sz q<=1048576):Fn Tryz.prog 56 [iUp p,iUp q] [iUp (p+q)]:=by
 have:=px (U p) (U q) (by have:=cJ p;have:=cJ q;omega) (HB.qb hp (by omega)) (HB.qb hq (by omega));rwa [Dg]at this
theorem zw {p q:PQ} {h k:Nat} (hp:Alg.HB h p) (hq:Alg.HB k q) (hh:h<=137438953000) (hk:k<=137438953000) (sp:Alg.sz p<=1048576) (sq:Alg.sz q<=1048576):Fn Tryz.prog 174 [iUp p,iUp q] [iUp (p-q)]:=by
 have:=IA (U p) (U q) (by have:=cJ p;have:=cJ q;omega) (HB.qb hp (by omega)) (HB.qb hq (by omega)) (BS (by omega) (by omega));rwa [Mm]at this
theorem lu {p:PQ} {c:Rat} {h:Nat} (hp:Alg.HB h p) (hh:h<=274877906000) (sp:Alg.sz p<=1048576) (hc:QB 17179869184 c):Fn Tryz.prog 85 [iUp p,iQ c] [iUp (p*Alg.C c)]:=by
 have:=uc (U p) c (by have:=cJ p;omega) (HB.qb hp (by omega)) hc (BS (by omega) (by omega));rwa [nw]at this
theorem w8 (p:PQ) {m:Tm} (hm:Uv1 m.1):ez (U p) m=U (p*mon m.1.a.toNat m.2):=by
 have hc:=il p;by_cases h:m.2=0
 ·rw[ez,if_pos h,h,i5,mul_zero,bR]
 ·rw[ez,if_neg h];have h1:∀{e f:Ex},Uv1 e->Uv1 f->0<bO e f->0<bO (e.add m.1) (f.add m.1):=by
   intro e f he hf h;have:=(jg he hf).1 h;refine(jg (rP he hm).1 (rP hf hm).1).2 ?_;simp only[Ex.add];omega
  have h2:∀ L:List Tm,Uv L->Srt L->Srt (mu L m):=by
   intro L hu hs
   induction L with
   | nil=>exact List.Pairwise.nil
   | cons x L ih =>
    obtain⟨g1,g2⟩:=List.pairwise_cons.1 hs;refine List.pairwise_cons.2 ⟨fun y hy=>?_,ih (fun t ht=>hu t (by simp[ht])) g2⟩;obtain⟨u,hu',rfl⟩:=List.mem_map.1 hy;exact h1 (hu x (by simp)) (hu u (by simp[hu'])) (g1 u hu')
  refine uO (L:=mu (U p) m) ⟨h2 _ hc.uv hc.srt,fun t ht=>?_,fun t ht=>?_⟩ ?_
  ·obtain⟨u,hu,rfl⟩:=List.mem_map.1 ht;exact aE (hc.nz u hu) h
  ·obtain⟨u,hu,rfl⟩:=List.mem_map.1 ht;exact(rP (hc.uv u hu) hm).1
  ·have:∀ L:List Tm,Uv L->toP (mu L m)=toP L*mon m.1.a.toNat m.2:=by
    intro L hu
    induction L with
    | nil=>rw[mu,List.map_nil,cj,zero_mul]
    | cons t L ih =>
     rw[aG,add_mul,<-ih (fun t ht=>hu t (by simp[ht])),du,mu,List.map_cons,aG];rw[(rP (hu t (by simp)) hm).2];rfl
   rw[this _ hc.uv,gy]
theorem Iw (p:PQ):∀(L:List Tm),Uv L->∀ q:PQ,L.foldl (fun o y=>fM o (ez (U p) y)) (U q)=U (q+p*toP L)
 | [],_,q=>by rw[cj,mul_zero,add_zero];rfl
 | t::L,h,q=>by
  rw[List.foldl_cons,w8 p (h t (by simp)),Dg,Iw p L (fun t ht=>h t (by simp[ht])),aG,mul_add,add_assoc]
theorem AZ (p:PQ) {L:List Tm} (h:Uv L):sM (U p) L=U (p*toP L):=by
 have:=Iw p L h 0;rw[bR,zero_add]at this;exact this
theorem Jh {D:Int}:∀{L:List Tm} {S:Nat},Bd D L S->∃ A:Alg.P Int,Alg.C (Alg.hQ.f D)*toP L=toQ A/\Alg.n1 A<=S
 | [],S,_=>⟨0,by rw[cj,mul_zero,cA],by rw[gS];omega⟩
 | t::L,S,⟨z,h1,h2,h3⟩=>by
  obtain⟨A,g1,g2⟩:=Jh h3;refine⟨mon t.1.a.toNat z+A,?_,?_⟩
  ·rw[aG,mul_add,g1,jI,m3,<-cH,du,Nat.zero_add];have:Alg.hQ.f D*t.2=Alg.hQ.f z:=h1;rw[this]
  ·have e:=gG t.1.a.toNat z 1;rw[mul_one]at e;have e1:Alg.n1 (1:Alg.P Int)<=1:=by
    refine oU (n:=1) (H:=1) (Nat.le_of_eq (by rw[<-bU];exact iH (by decide))) (fun i=>?_);rw[<-bU];cases i with
    | zero=>exact ae 1
    | succ i=>exact Nat.zero_le 1
   have e2:z.natAbs*Alg.n1 (1:Alg.P Int)<=z.natAbs:=by
    calc z.natAbs*Alg.n1 (1:Alg.P Int)<=z.natAbs*1:=Nat.mul_le_mul_left _ e1
     _=z.natAbs:=Nat.mul_one _
   have:=kU (mon t.1.a.toNat z) A;omega
theorem HB.part {h:Nat} {p:PQ} (H:Alg.HB h p) (i:Nat):Alg.HB h (toP ((U p).take i)):=by
 obtain⟨D,hD,h1,h2⟩:=HB.bd H;obtain⟨A,g1,g2⟩:=Jh (h2.take i);exact⟨D,A,hD,h1,g2,g1⟩
theorem HB.term {h:Nat} {p:PQ} (H:Alg.HB h p) {t:Tm} (ht:t∈U p):Alg.HB h (mon t.1.a.toNat t.2):=by
 obtain⟨i,_,rfl,_⟩:=mO ht;exact Alg.HB.mon _ (H.coef i).1 (H.coef i).2
theorem dM {p q:PQ} {h k:Nat} (hp:Alg.HB h p) (hq:Alg.HB k q) (hh:h+k<=137438953000) (sp:Alg.sz p<=524288) (sq:Alg.sz q<=524288):Fn Tryz.prog 57 [iUp p,iUp q] [iUp (p*q)]:=by
 have huq:=(il q).uv;have:=zy (U p) (U q) (by have:=cJ p;omega) (by have:=cJ q;omega) (HB.qb hp (by omega)) (HB.qb hq (by omega)) (BS (by omega) (by omega)) (BS (by omega) (by omega)) fun i hi=>by
  have hu:Uv ((U q).take i):=fun t ht=>huq t (List.mem_of_mem_take ht);have hs:Alg.sz (toP ((U q).take i))<=Alg.sz q:=by
   refine cm fun j hj=>oI (n:=Alg.sz q) (fun t ht=>?_) j hj;have h1:=List.mem_of_mem_take ht;obtain⟨n,hn,rfl,_⟩:=mO h1;simp only;omega
  refine⟨?_,?_,?_⟩
  ·rw[AZ p hu];exact HB.qb (hp.mul (HB.part hq i)) (by omega)
  ·rw[w8 p (huq _ (List.getElem_mem _))];exact HB.qb (hp.mul (HB.term hq (List.getElem_mem _))) (by omega)
  ·rw[AZ p hu];have:=cJ (p*toP ((U q).take i));have:=aM p (toP ((U q).take i));omega
 rwa [AZ p huq,gy]at this
end Go.AM
namespace Go.AM
open Go.Proofs
theorem uk (a:List Tm) (v:Nat) (hv:v<4) (hl:a.length<=1099511627776):Fn Tryz.prog 44 [iM a,iN v] [iN (fK a v)]:=by
 refine ak (fn:=Tryz.f44) (by rfl) rfl rfl rfl (by rfl) ?_;simp -dsimp -implicitDefEqProofs only[go_sem];refine aJ [(5,21)] [] [] (fun n τ β ε=>∃ i:Nat,n=a.length-i/\i<=a.length/\τ 6 = .i (iN i)/\τ 5 = .i (iN (fK (a.take i) v)))
  (fun e τ β ε=>e = .exit 0/\τ 5 = .i (iN (fK a v))) a.length ?_ ?_ ?_
 ·exact⟨0,by omega,by omega,rfl,rfl⟩
 ·rintro n τ β ε π hK hKB hKE ⟨i,hn,hi,h6,h5⟩;have k0:τ 0 = .i (iM a):=(hK 0 rfl).trans rfl;have k1:τ 1 = .i (iN v):=(hK 1 rfl).trans rfl;by_cases hlt:i<a.length
  ·have dA:decide ((i:Int)<(a.length:Int))=true:=ai (by omega);have hg:a[i]?=some a[i]:=by simp[hlt]
   have hd:fK (a.take (i+1)) v=max (fK (a.take i) v) (a[i].1.at v):=by rw[ab hlt,vq]
   obtain rfl|rfl|rfl|rfl:v=0\/v=1\/v=2\/v=3:=by omega
   ·have k1':τ 1 = .i (iN 0):=k1;simp -dsimp -implicitDefEqProofs only[go_sem,h6,h5,k0,k1',dA,af,Int.reduceToNat,Int.reduceLE,ag];refine av hg ?_;simp -dsimp -implicitDefEqProofs only[go_sem,h6,h5,k0,k1',dA,Int.reduceToNat,Int.reduceLE,ag]
    repeat(refine And.intro (by omega) ?_)
    refine again (a.length-(i+1)) (by omega) ⟨(by(repeat apply am rfl);exact hK),hKB,hKE,i+1,rfl,by omega,rfl,?_⟩
    simp -dsimp -implicitDefEqProofs only[go_sem,hd];rfl
   ·have k1':τ 1 = .i (iN 1):=k1;simp -dsimp -implicitDefEqProofs only[go_sem,h6,h5,k0,k1',dA,af,Int.reduceToNat,Int.reduceLE,ag];refine av hg ?_;simp -dsimp -implicitDefEqProofs only[go_sem,h6,h5,k0,k1',dA,Int.reduceToNat,Int.reduceLE,ag]
    repeat(refine And.intro (by omega) ?_)
    refine again (a.length-(i+1)) (by omega) ⟨(by(repeat apply am rfl);exact hK),hKB,hKE,i+1,rfl,by omega,rfl,?_⟩
    simp -dsimp -implicitDefEqProofs only[go_sem,hd];rfl
   ·have k1':τ 1 = .i (iN 2):=k1;simp -dsimp -implicitDefEqProofs only[go_sem,h6,h5,k0,k1',dA,af,Int.reduceToNat,Int.reduceLE,ag];refine av hg ?_;simp -dsimp -implicitDefEqProofs only[go_sem,h6,h5,k0,k1',dA,Int.reduceToNat,Int.reduceLE,ag]
    repeat(refine And.intro (by omega) ?_)
    refine again (a.length-(i+1)) (by omega) ⟨(by(repeat apply am rfl);exact hK),hKB,hKE,i+1,rfl,by omega,rfl,?_⟩
    simp -dsimp -implicitDefEqProofs only[go_sem,hd];rfl
   ·have k1':τ 1 = .i (iN 3):=k1;simp -dsimp -implicitDefEqProofs only[go_sem,h6,h5,k0,k1',dA,af,Int.reduceToNat,Int.reduceLE,ag];refine av hg ?_;simp -dsimp -implicitDefEqProofs only[go_sem,h6,h5,k0,k1',dA,Int.reduceToNat,Int.reduceLE,ag]
    repeat(refine And.intro (by omega) ?_)
    refine again (a.length-(i+1)) (by omega) ⟨(by(repeat apply am rfl);exact hK),hKB,hKE,i+1,rfl,by omega,rfl,?_⟩
    simp -dsimp -implicitDefEqProofs only[go_sem,hd];rfl
  ·have dA:decide ((i:Int)<(a.length:Int))=false:=aj (by omega);obtain rfl:i=a.length:=by omega
   rw[List.take_length]at h5;simp -dsimp -implicitDefEqProofs only[go_sem,h6,k0,dA,af];exact⟨(by(repeat apply am rfl);exact hK),hKB,hKE,h5⟩
 ·rintro e τ β ε π hK hKB hKE ⟨rfl,h5⟩;simp -dsimp -implicitDefEqProofs only[go_sem,h5]
theorem dS (a:List Tm) (t:Tm) (v k:Nat):ci (a++[t]) v k=ci a v k++(if t.1.at v=(k:Int)then[(t.1.to v 0,t.2)]else[]):=by
 unfold ci;rw[List.filter_append,List.map_append];by_cases h:t.1.at v=(k:Int)<;>simp[h]
theorem BZ (a:List Tm) (v k:Nat) (hv:v<4) (hl:a.length<=1048576):Fn Tryz.prog 172 [iM a,iN v,iN k] [iM (ci a v k)]:=by
 refine ak (fn:=Tryz.f172) (by rfl) rfl rfl rfl (by rfl) ?_;simp -dsimp -implicitDefEqProofs only[go_sem];refine bL 7 10 8 (rs:=[]) rfl (by simp) ?_;refine aS [(7,9),(11,33)] [(9,9)] [(10,10),(33,33)] (fun n τ β ε=>∃ i:Nat,n=a.length-i/\i<=a.length/\τ 8 = .i (iN i)/\Own 8 ((ci (a.take i) v k).map eT) 7 10 τ ε)
  (fun e τ β ε=>e = .exit 0/\Own 8 ((ci a v k).map eT) 7 10 τ ε) a.length ?_ ?_ ?_
 ·exact⟨0,by omega,by omega,rfl,Own.mk (g:=1) (mm:=false) (by omega) rfl rfl rfl⟩
 ·rintro n τ β ε π hK hKB hKE ⟨i,hn,hi,h8,g,mm,hg0,h7,f10⟩;have hcl:(ci (a.take i) v k).length<=i:=by
   unfold ci;rw[af];exact ac (List.length_filter_le _ _) (by simp;omega)
  rw[af]at h7;have h7':=h7;have k0:τ 0 = .i (iM a):=(hK 0 rfl).trans rfl;have k1:τ 1 = .i (iN v):=(hK 1 rfl).trans rfl;have k2:τ 2 = .i (iN k):=(hK 2 rfl).trans rfl;by_cases hlt:i<a.length
  ·have dA:decide ((i:Int)<(a.length:Int))=true:=ai (by omega);have hg:a[i]?=some a[i]:=by simp[hlt]
   obtain rfl|rfl|rfl|rfl:v=0\/v=1\/v=2\/v=3:=by omega
   ·have k1':τ 1 = .i (iN 0):=k1;simp -dsimp -implicitDefEqProofs only[go_sem,h8,k0,k1',k2,dA,af,Int.reduceToNat,Int.reduceLE,ag];refine av hg ?_;simp -dsimp -implicitDefEqProofs only[go_sem,h8,k0,k1',k2,dA,Int.reduceToNat,Int.reduceLE,ag];by_cases hc:a[i].1.at 0=k
    ·have ec:decide (a[i].1.a=(k:Int))=true:=ai hc;simp -dsimp -implicitDefEqProofs only[go_sem,ec,h7',f10,hg0,k1',h8,Int.reduceToNat,Int.reduceLE,ag]
     repeat(refine And.intro (by omega) ?_)
     refine aH (a.length-(i+1)) 7 33 10 (by omega) rfl rfl (by omega) (by decide) ⟨(by(repeat apply am rfl);exact hK),(by(repeat apply am rfl);exact hKB),(by(repeat apply am rfl);exact hKE),i+1,rfl,by omega,rfl,?_⟩
     refine Own.mk2 (Nat.succ_pos _) (by simp -dsimp -implicitDefEqProofs only[go_sem];rfl) (by simp -dsimp -implicitDefEqProofs only[go_sem];rfl) (by simp) ?_;rw[ab hlt,dS,if_pos hc,List.map_append];rfl
    ·have ec:decide (a[i].1.a=(k:Int))=false:=aj hc;simp -dsimp -implicitDefEqProofs only[go_sem,ec,h8,Int.reduceToNat,Int.reduceLE,ag]
     repeat(refine And.intro (by omega) ?_)
     refine again (a.length-(i+1)) (by omega) ⟨(by(repeat apply am rfl);exact hK),(by(repeat apply am rfl);exact hKB),hKE,i+1,rfl,by omega,rfl,?_⟩
     rw[ab hlt,dS,if_neg hc,List.append_nil];exact Own.mk hg0 (by simp -dsimp -implicitDefEqProofs only[go_sem];exact h7) rfl f10
   ·have k1':τ 1 = .i (iN 1):=k1;simp -dsimp -implicitDefEqProofs only[go_sem,h8,k0,k1',k2,dA,af,Int.reduceToNat,Int.reduceLE,ag];refine av hg ?_;simp -dsimp -implicitDefEqProofs only[go_sem,h8,k0,k1',k2,dA,Int.reduceToNat,Int.reduceLE,ag];by_cases hc:a[i].1.at 1=k
    ·have ec:decide (a[i].1.b=(k:Int))=true:=ai hc;simp -dsimp -implicitDefEqProofs only[go_sem,ec,h7',f10,hg0,k1',h8,Int.reduceToNat,Int.reduceLE,ag]
     repeat(refine And.intro (by omega) ?_)
     refine aH (a.length-(i+1)) 7 33 10 (by omega) rfl rfl (by omega) (by decide) ⟨(by(repeat apply am rfl);exact hK),(by(repeat apply am rfl);exact hKB),(by(repeat apply am rfl);exact hKE),i+1,rfl,by omega,rfl,?_⟩
     refine Own.mk2 (Nat.succ_pos _) (by simp -dsimp -implicitDefEqProofs only[go_sem];rfl) (by simp -dsimp -implicitDefEqProofs only[go_sem];rfl) (by simp) ?_;rw[ab hlt,dS,if_pos hc,List.map_append];rfl
    ·have ec:decide (a[i].1.b=(k:Int))=false:=aj hc;simp -dsimp -implicitDefEqProofs only[go_sem,ec,h8,Int.reduceToNat,Int.reduceLE,ag]
     repeat(refine And.intro (by omega) ?_)
     refine again (a.length-(i+1)) (by omega) ⟨(by(repeat apply am rfl);exact hK),(by(repeat apply am rfl);exact hKB),hKE,i+1,rfl,by omega,rfl,?_⟩
     rw[ab hlt,dS,if_neg hc,List.append_nil];exact Own.mk hg0 (by simp -dsimp -implicitDefEqProofs only[go_sem];exact h7) rfl f10
   ·have k1':τ 1 = .i (iN 2):=k1;simp -dsimp -implicitDefEqProofs only[go_sem,h8,k0,k1',k2,dA,af,Int.reduceToNat,Int.reduceLE,ag];refine av hg ?_;simp -dsimp -implicitDefEqProofs only[go_sem,h8,k0,k1',k2,dA,Int.reduceToNat,Int.reduceLE,ag];by_cases hc:a[i].1.at 2=k
    ·have ec:decide (a[i].1.c=(k:Int))=true:=ai hc;simp -dsimp -implicitDefEqProofs only[go_sem,ec,h7',f10,hg0,k1',h8,Int.reduceToNat,Int.reduceLE,ag]
     repeat(refine And.intro (by omega) ?_)
     refine aH (a.length-(i+1)) 7 33 10 (by omega) rfl rfl (by omega) (by decide) ⟨(by(repeat apply am rfl);exact hK),(by(repeat apply am rfl);exact hKB),(by(repeat apply am rfl);exact hKE),i+1,rfl,by omega,rfl,?_⟩
     refine Own.mk2 (Nat.succ_pos _) (by simp -dsimp -implicitDefEqProofs only[go_sem];rfl) (by simp -dsimp -implicitDefEqProofs only[go_sem];rfl) (by simp) ?_;rw[ab hlt,dS,if_pos hc,List.map_append];rfl
    ·have ec:decide (a[i].1.c=(k:Int))=false:=aj hc;simp -dsimp -implicitDefEqProofs only[go_sem,ec,h8,Int.reduceToNat,Int.reduceLE,ag]
     repeat(refine And.intro (by omega) ?_)
     refine again (a.length-(i+1)) (by omega) ⟨(by(repeat apply am rfl);exact hK),(by(repeat apply am rfl);exact hKB),hKE,i+1,rfl,by omega,rfl,?_⟩
     rw[ab hlt,dS,if_neg hc,List.append_nil];exact Own.mk hg0 (by simp -dsimp -implicitDefEqProofs only[go_sem];exact h7) rfl f10
   ·have k1':τ 1 = .i (iN 3):=k1;simp -dsimp -implicitDefEqProofs only[go_sem,h8,k0,k1',k2,dA,af,Int.reduceToNat,Int.reduceLE,ag];refine av hg ?_;simp -dsimp -implicitDefEqProofs only[go_sem,h8,k0,k1',k2,dA,Int.reduceToNat,Int.reduceLE,ag];by_cases hc:a[i].1.at 3=k
    ·have ec:decide (a[i].1.d=(k:Int))=true:=ai hc;simp -dsimp -implicitDefEqProofs only[go_sem,ec,h7',f10,hg0,k1',h8,Int.reduceToNat,Int.reduceLE,ag]
     repeat(refine And.intro (by omega) ?_)
     refine aH (a.length-(i+1)) 7 33 10 (by omega) rfl rfl (by omega) (by decide) ⟨(by(repeat apply am rfl);exact hK),(by(repeat apply am rfl);exact hKB),(by(repeat apply am rfl);exact hKE),i+1,rfl,by omega,rfl,?_⟩
     refine Own.mk2 (Nat.succ_pos _) (by simp -dsimp -implicitDefEqProofs only[go_sem];rfl) (by simp -dsimp -implicitDefEqProofs only[go_sem];rfl) (by simp) ?_;rw[ab hlt,dS,if_pos hc,List.map_append];rfl
    ·have ec:decide (a[i].1.d=(k:Int))=false:=aj hc;simp -dsimp -implicitDefEqProofs only[go_sem,ec,h8,Int.reduceToNat,Int.reduceLE,ag]
     repeat(refine And.intro (by omega) ?_)
     refine again (a.length-(i+1)) (by omega) ⟨(by(repeat apply am rfl);exact hK),(by(repeat apply am rfl);exact hKB),hKE,i+1,rfl,by omega,rfl,?_⟩
     rw[ab hlt,dS,if_neg hc,List.append_nil];exact Own.mk hg0 (by simp -dsimp -implicitDefEqProofs only[go_sem];exact h7) rfl f10
  ·have dA:decide ((i:Int)<(a.length:Int))=false:=aj (by omega);obtain rfl:i=a.length:=by omega
   rw[List.take_length]at h7 f10;simp -dsimp -implicitDefEqProofs only[go_sem,h8,k0,dA,af];exact⟨(by(repeat apply am rfl);exact hK),hKB,hKE,Own.mk hg0 h7 (by simp) f10⟩
 ·rintro e τ β ε π hK hKB hKE ⟨rfl,g,mm,hg,h5,h9⟩;rw[af]at h5;refine⟨_,aY.refl _,?_⟩;simp -dsimp -implicitDefEqProofs only[go_sem,h5,h9,hg]
end Go.AM
namespace Go.AM
open Alg
open Go.Proofs
def Ex.zsub (e f:Ex) (i:Nat):Ex:=⟨if 0<i then e.a-f.a else 0,if 1<i then e.b-f.b else 0,if 2<i then e.c-f.c else 0,if 3<i then e.d-f.d else 0⟩
set_option maxHeartbeats 1000000 in
theorem uj {p q:PQ} {h k:Nat} (hp:Alg.HB h p) (hq:Alg.HB k q) (hq0:q≠0) (hb:h+(Alg.sz p+2)*(k+1)+k<=137438953000) (sp:Alg.sz p<=524288) (sq:Alg.sz q<=524288):Fn Tryz.prog 158 [iUp p,iUp q] (tO p q):=by
 obtain⟨Q,hQ⟩:=fu hq0;have lQ:(U q).length=Q.length+1:=by rw[hQ];rfl
 have cQ:(U q)[0]?=some (⟨((Alg.sz q-1:Nat):Int),0,0,0⟩,lc q):=by rw[hQ];rfl
 have hq1:=az hq0;have hlq:=bu hq0;refine ak (fn:=Tryz.f158) (by rfl) rfl rfl rfl (by rfl) ?_;have e1:decide (((U q).length:Int)=0)=false:=by rw[lQ];exact aj (by omega)
 simp -dsimp -implicitDefEqProofs only[go_sem,e1,af];refine bL 6 14 8 (rs:=[]) rfl (by simp) ?_;refine aS [(4,9),(16,66)] [(8,8)] [(61,61),(14,14)] (fun n τ β ε=>∃(r s:PQ) (L:List Tm) (j:Nat),n=Alg.sz r/\p=s*q+r/\Cn L/\toP L=s/\(∀ t∈L,(Alg.sz r:Int)-Alg.sz q<t.1.a)/\L.length+Alg.sz r<=Alg.sz p/\Alg.HB (h+j*(k+1)) r/\j+Alg.sz r<=Alg.sz p /\
   τ 7 = .i (iUp r)/\Own 8 (L.map eT) 6 14 τ ε)
  (fun e τ β ε=>(e = .exit 0/\∃(s:PQ) (L:List Tm),p=s*q/\Cn L/\toP L=s/\L.length<=Alg.sz p/\Own 8 (L.map eT) 6 14 τ ε) \/
   (e = .ret/\tO p q=[iM [],iB false]/\τ 4 = .fl []/\τ 5 = .i (.c (.v (.bool false))))) (Alg.sz p) ?_ ?_ ?_
 ·exact⟨p,0,[],0,rfl,by rw[zero_mul,zero_add],⟨List.Pairwise.nil,by simp,by intro t ht;simp at ht⟩,rfl,by simp,by simp,by simpa using hp,by omega,rfl,Own.mk (g:=1) (mm:=false) (by omega) rfl rfl rfl⟩
 ·rintro n τ β ε π hK hKB hKE ⟨r,s,L,j,hn,he,hL,hLs,hlt,hll,hr,hj,h0,g,mm,hg,h6,hrow⟩;have h6':τ 6 = .sl 14 g L.length:=by rw[h6,af]
  have k1:τ 1 = .i (iUp q):=(hK 1 rfl).trans rfl;by_cases hr0:r=0
  ·have hA:¬ (0:Int)<((U r).length:Int):=by rw[hr0,bR];simp
   simp -dsimp -implicitDefEqProofs only[go_sem,h0,hA,af];exact⟨(by(repeat apply am rfl);exact hK),hKB,hKE,s,L,by rw[he,hr0,add_zero],hL,hLs,by omega,Own.mk hg h6' (by simp) hrow⟩
  ·obtain⟨R,hR⟩:=fu hr0;have lR:(U r).length=R.length+1:=by rw[hR];rfl
   have cR:(U r)[0]?=some (⟨((Alg.sz r-1:Nat):Int),0,0,0⟩,lc r):=by rw[hR];rfl
   have hA:decide ((0:Int)<((U r).length:Int))=true:=ai (by rw[lR];omega);have hr1:=az hr0;have hsr:Alg.sz r<=Alg.sz p:=by omega
   simp -dsimp -implicitDefEqProofs only[go_sem,h0,hA,af,Int.reduceToNat,Int.reduceLE,ag];refine aS [(9,9),(20,39)] [(8,8)] [] (fun n τ' β' ε'=>∃ i:Nat,n=4-i/\i<=4/\τ' 9 = .i (iN i)/\β' 8=⟨(β 8).gen+1,(Ex.zsub ⟨((Alg.sz r-1:Nat):Int),0,0,0⟩ ⟨((Alg.sz q-1:Nat):Int),0,0,0⟩ i).cs++[.v (.bool false),.lst [],.v (.bool false),.lst []]⟩)
    (fun e τ' β' ε'=>e = .exit 2/\β' 8=⟨(β 8).gen+1,(Ex.sub ⟨((Alg.sz r-1:Nat):Int),0,0,0⟩ ⟨((Alg.sz q-1:Nat):Int),0,0,0⟩).cs++[.v (.bool false),.lst [],.v (.bool false),.lst []]⟩) 4 ?_ ?_ ?_
   ·exact⟨0,by omega,by omega,rfl,rfl⟩
   ·rintro n2 τ2 β2 ε2 π2 hK2 hKB2 hKE2 ⟨i,hn2,hi,h18,b8⟩;have q8:τ2 8 = .bp 8 ((β 8).gen+1) 0:=(hK2 8 rfl).trans rfl;have q1:τ2 1 = .i (iUp q):=(hK2 1 rfl).trans k1;have q7:τ2 7 = .i (iUp r):=(hK2 7 rfl).trans h0;obtain rfl|rfl|rfl|rfl|rfl:i=0\/i=1\/i=2\/i=3\/i=4:=by omega
    ·have h18':τ2 9 = .i (iN 0):=h18;simp -dsimp -implicitDefEqProofs only[go_sem,h18',Int.reduceLT,decide_true];refine ao (by rfl) 16 [] false true (by rfl) (by rfl) (by decide +kernel) ?_;simp -dsimp -implicitDefEqProofs only[go_sem,h18',q7,q1,q8,b8,Int.reduceToNat,Int.reduceLE,ag,Int.reduceAdd,Ex.zsub,Nat.not_lt_zero];refine av cR ?_;simp -dsimp -implicitDefEqProofs only[go_sem,h18',q7,q1,q8,b8,Int.reduceToNat,Int.reduceLE,ag,Int.reduceAdd,Ex.zsub,Nat.not_lt_zero];refine av cQ ?_;simp -dsimp -implicitDefEqProofs only[go_sem,h18',q7,q1,q8,b8,Int.reduceToNat,Int.reduceLE,ag,Int.reduceAdd,Ex.zsub,Nat.not_lt_zero]
     repeat(refine And.intro (by omega) ?_)
     refine again (4-1) (by omega) ⟨(by(repeat apply am rfl);exact hK2),(by(repeat apply am rfl);exact hKB2),hKE2,1,rfl,by omega,rfl,?_⟩
     simp -dsimp -implicitDefEqProofs only[go_sem,Ex.zsub,Nat.not_lt_zero]
    ·have h18':τ2 9 = .i (iN 1):=h18;simp -dsimp -implicitDefEqProofs only[go_sem,h18',Int.reduceLT,decide_true];refine ao (by rfl) 16 [] false true (by rfl) (by rfl) (by decide +kernel) ?_;simp -dsimp -implicitDefEqProofs only[go_sem,h18',q7,q1,q8,b8,Int.reduceToNat,Int.reduceLE,ag,Int.reduceAdd,Ex.zsub,Nat.not_lt_zero];refine av cR ?_;simp -dsimp -implicitDefEqProofs only[go_sem,h18',q7,q1,q8,b8,Int.reduceToNat,Int.reduceLE,ag,Int.reduceAdd,Ex.zsub,Nat.not_lt_zero];refine av cQ ?_;simp -dsimp -implicitDefEqProofs only[go_sem,h18',q7,q1,q8,b8,Int.reduceToNat,Int.reduceLE,ag,Int.reduceAdd,Ex.zsub,Nat.not_lt_zero]
     repeat(refine And.intro (by omega) ?_)
     refine again (4-2) (by omega) ⟨(by(repeat apply am rfl);exact hK2),(by(repeat apply am rfl);exact hKB2),hKE2,2,rfl,by omega,rfl,?_⟩
     simp -dsimp -implicitDefEqProofs only[go_sem,Ex.zsub,Nat.not_lt_zero]
    ·have h18':τ2 9 = .i (iN 2):=h18;simp -dsimp -implicitDefEqProofs only[go_sem,h18',Int.reduceLT,decide_true];refine ao (by rfl) 16 [] false true (by rfl) (by rfl) (by decide +kernel) ?_;simp -dsimp -implicitDefEqProofs only[go_sem,h18',q7,q1,q8,b8,Int.reduceToNat,Int.reduceLE,ag,Int.reduceAdd,Ex.zsub,Nat.not_lt_zero];refine av cR ?_;simp -dsimp -implicitDefEqProofs only[go_sem,h18',q7,q1,q8,b8,Int.reduceToNat,Int.reduceLE,ag,Int.reduceAdd,Ex.zsub,Nat.not_lt_zero];refine av cQ ?_;simp -dsimp -implicitDefEqProofs only[go_sem,h18',q7,q1,q8,b8,Int.reduceToNat,Int.reduceLE,ag,Int.reduceAdd,Ex.zsub,Nat.not_lt_zero]
     repeat(refine And.intro (by omega) ?_)
     refine again (4-3) (by omega) ⟨(by(repeat apply am rfl);exact hK2),(by(repeat apply am rfl);exact hKB2),hKE2,3,rfl,by omega,rfl,?_⟩
     simp -dsimp -implicitDefEqProofs only[go_sem,Ex.zsub,Nat.not_lt_zero]
    ·have h18':τ2 9 = .i (iN 3):=h18;simp -dsimp -implicitDefEqProofs only[go_sem,h18',Int.reduceLT,decide_true];refine ao (by rfl) 16 [] false true (by rfl) (by rfl) (by decide +kernel) ?_;simp -dsimp -implicitDefEqProofs only[go_sem,h18',q7,q1,q8,b8,Int.reduceToNat,Int.reduceLE,ag,Int.reduceAdd,Ex.zsub,Nat.not_lt_zero];refine av cR ?_;simp -dsimp -implicitDefEqProofs only[go_sem,h18',q7,q1,q8,b8,Int.reduceToNat,Int.reduceLE,ag,Int.reduceAdd,Ex.zsub,Nat.not_lt_zero];refine av cQ ?_;simp -dsimp -implicitDefEqProofs only[go_sem,h18',q7,q1,q8,b8,Int.reduceToNat,Int.reduceLE,ag,Int.reduceAdd,Ex.zsub,Nat.not_lt_zero]
     repeat(refine And.intro (by omega) ?_)
     refine again (4-4) (by omega) ⟨(by(repeat apply am rfl);exact hK2),(by(repeat apply am rfl);exact hKB2),hKE2,4,rfl,by omega,rfl,?_⟩
     simp -dsimp -implicitDefEqProofs only[go_sem,Ex.zsub,Nat.not_lt_zero]
    ·have h18':τ2 9 = .i (iN 4):=h18;simp -dsimp -implicitDefEqProofs only[go_sem,h18',Int.reduceLT,decide_false];exact⟨(by(repeat apply am rfl);exact hK2),hKB2,hKE2,b8⟩
   ·rintro e τ2 β2 ε2 π2 hK2 hKB2 hKE2 ⟨rfl,b8⟩;refine⟨_,aY.refl _,?_⟩;have r8:τ2 8 = .bp 8 ((β 8).gen+1) 0:=(hK2 8 rfl).trans rfl;have r1:τ2 1 = .i (iUp q):=(hK2 1 rfl).trans k1;have r7:τ2 7 = .i (iUp r):=(hK2 7 rfl).trans h0;have r6:τ2 6 = .sl 14 g L.length:=(hK2 6 rfl).trans h6';have rr:ε2 14=⟨g,8,L.map eT,mm,true⟩:=(hKE2 14 rfl).trans hrow;have kO:=Kp.step2 hK hK2 (by intro n;simp[inR]<;>omega) (by(repeat apply am rfl);exact hK)
    have kB:=Kp.step2 hKB hKB2 (by intro n;simp[inR]<;>omega) (by(repeat apply am rfl);exact hKB)
    have kE:=Kp.step2 hKE hKE2 (by intro n;simp[inR]) hKE;have hjk:j*(k+1)+(k+1)<=(Alg.sz p+2)*(k+1):=by rw[<-Nat.succ_mul];exact Nat.mul_le_mul_right _ (by omega)
    have hqr:QB 17179869184 (lc r):=gB (hr.coef _).1 (hr.coef _).2 (by omega);have hqq:QB 17179869184 (lc q):=gB (hq.coef _).1 (hq.coef _).2 (by omega);by_cases hc:Alg.sz q<=Alg.sz r
    ·have hX:Ex.sub ⟨((Alg.sz r-1:Nat):Int),0,0,0⟩ ⟨((Alg.sz q-1:Nat):Int),0,0,0⟩=⟨((Alg.sz r-Alg.sz q:Nat):Int),0,0,0⟩:=by
      unfold Ex.sub;simp only[Ex.mk.injEq];omega
     rw[hX]at b8;have eN:decide (cr ⟨((Alg.sz r-Alg.sz q:Nat):Int),0,0,0⟩)=true:=ai (by unfold cr;dsimp only;omega);simp -dsimp -implicitDefEqProofs only[go_sem,r8,b8,r1,r7,Int.reduceToNat,Int.reduceLE,ag];refine ar (args':=[iE ⟨((Alg.sz r-Alg.sz q:Nat):Int),0,0,0⟩]) rfl (fT _) ?_;simp -dsimp -implicitDefEqProofs only[go_sem,eN];refine aZ (by rfl) 11 13 [] true [.tmp 57] none (by rfl) (by rfl) (by rfl) (by rfl) (by decide +kernel) ?_;simp -dsimp -implicitDefEqProofs only[go_sem,r8,b8,r1,r7,Int.reduceToNat,Int.reduceLE,ag];refine av cR ?_;simp -dsimp -implicitDefEqProofs only[go_sem,r8,b8,r1,r7,Int.reduceToNat,Int.reduceLE,ag];refine av cQ ?_;simp -dsimp -implicitDefEqProofs only[go_sem,r8,b8,r1,r7,Int.reduceToNat,Int.reduceLE,ag];refine ar (args':=[iQ (lc r),iQ (lc q)]) rfl (zF _ _ hlq hqr hqq) ?_;simp -dsimp -implicitDefEqProofs only[go_sem,r8,b8,r1,r7,Int.reduceToNat,Int.reduceLE,ag];have hcc:lc r/lc q≠0:=by
      intro e0;refine bu hr0 ?_;have h9:(lc r:Rat)/lc q*lc q=lc r:=Rat.div_mul_cancel hlq;rw[e0]at h9;rw[<-h9];exact Rat.zero_mul _
     obtain⟨b1,b2⟩:=i7 hlq (hr.coef (Alg.sz r-1)) (hq.coef (Alg.sz q-1));have hmb:Alg.HB (h+j*(k+1)+k) (mon (Alg.sz r-Alg.sz q) (lc r/lc q)):=Alg.HB.mon _ b1 b2;have hsm:=lZ (Alg.sz r-Alg.sz q) (a:=lc r/lc q) hcc;have hsp:=aM q (mon (Alg.sz r-Alg.sz q) (lc r/lc q));simp -dsimp -implicitDefEqProofs only[go_sem,r6,rr,hg,r7,r1,af]
     repeat(refine And.intro (by omega) ?_)
     simp -dsimp -implicitDefEqProofs only[go_sem,r8,r1,r7];refine ar (args':=[iUp q,.g (eT (⟨((Alg.sz r-Alg.sz q:Nat):Int),0,0,0⟩,lc r/lc q))]) rfl (qo _ _ (by have:=cJ q;omega) (HB.qb hq (by omega)) (gB b1 b2 (by omega)) (BS (by omega) (by omega)) (by unfold Ex.lt;dsimp only;omega)) ?_;rw[w8 q ⟨by simp,rfl,rfl,rfl⟩];simp -dsimp -implicitDefEqProofs only[go_sem,r7];refine ar (args':=[iUp r,iUp (q*mon (Alg.sz r-Alg.sz q) (lc r/lc q))]) (by simp) (zw hr (hq.mul hmb) (by omega) (by omega) (by omega) (by omega)) ?_;simp -dsimp -implicitDefEqProofs only[go_sem];have hlow:=vp hr0 hq0 hc;refine aH (Alg.sz (r-q*mon (Alg.sz r-Alg.sz q) (lc r/lc q))) 6 61 14 (by omega) rfl rfl (by omega) (by decide)
      ⟨(by(repeat apply am rfl);exact kO),(by(repeat apply am rfl);exact kB),(by(repeat apply am rfl);exact kE),_,s+mon (Alg.sz r-Alg.sz q) (lc r/lc q),L++[(⟨((Alg.sz r-Alg.sz q:Nat):Int),0,0,0⟩,lc r/lc q)],j+1,rfl,?_,C7 hL hcc (fun t ht=>by have:=hlt t ht;omega),?_,?_,by simp;omega,?_,by omega,rfl,?_⟩
     ·rw[he,add_mul];exact ring [s*q,mon (Alg.sz r-Alg.sz q) (lc r/lc q),q,r]
     ·rw[nW,hLs,aG,cj,add_zero];simp
     ·intro t ht;rcases List.mem_append.1 ht with ht|ht
      ·have:=hlt t ht;omega
      ·simp at ht;subst ht;simp only;omega
     ·have:=hr.divstep hq hq0 (Alg.sz r-Alg.sz q);exact this.mono (by rw[Nat.succ_mul];omega)
     ·exact Own.mk2 (Nat.succ_pos _) (by simp -dsimp -implicitDefEqProofs only[go_sem];rfl) (by simp -dsimp -implicitDefEqProofs only[go_sem];rfl) (by simp) (by simp;rfl)
    ·have hX:¬ cr (Ex.sub ⟨((Alg.sz r-1:Nat):Int),0,0,0⟩ ⟨((Alg.sz q-1:Nat):Int),0,0,0⟩):=by
      unfold Ex.sub cr;dsimp only;omega
     have eN:decide (cr (Ex.sub ⟨((Alg.sz r-1:Nat):Int),0,0,0⟩ ⟨((Alg.sz q-1:Nat):Int),0,0,0⟩))=false:=aj hX;simp -dsimp -implicitDefEqProofs only[go_sem,r8,b8,r1,r7,Int.reduceToNat,Int.reduceLE,ag];refine ar (args':=[iE (Ex.sub ⟨((Alg.sz r-1:Nat):Int),0,0,0⟩ ⟨((Alg.sz q-1:Nat):Int),0,0,0⟩)]) rfl (fT _) ?_;simp -dsimp -implicitDefEqProofs only[go_sem,eN];exact⟨(by(repeat apply am rfl);exact kO),kB,kE,yX he hr0 (by omega)⟩
 ·rintro e τ β ε π hK hKB hKE h;refine⟨_,aY.refl _,?_⟩;rcases h with⟨rfl,s,L,he,hL,hLs,hll,g,mm,hg,h6,hrow⟩|⟨rfl,h1,h2,h3⟩
  ·rw[af]at h6;simp -dsimp -implicitDefEqProofs only[go_sem,h6,hrow,hg];rw[ge hq0 he,jZ s,<-uO hL hLs]
  ·simp -dsimp -implicitDefEqProofs only[go_sem,h2,h3];rw[h1];rfl
theorem fG (p:PQ) (sp:Alg.sz p<=1048576):Fn Tryz.prog 44 [iUp p,iN 0] [iN ((Alg.sz p:Int)-1)]:=by
 have:=uk (U p) 0 (by omega) (by have:=cJ p;omega);rwa [qi]at this
theorem ol (p:PQ) (k:Nat) (sp:Alg.sz p<=1048576):Fn Tryz.prog 172 [iUp p,iN 0,iN k] [iUp (Alg.C (p.c k))]:=by
 have:=BZ (U p) 0 k (by omega) (by have:=cJ p;omega);rwa [y6]at this
theorem Fw (p:PQ) (hp:p≠0) (sp:Alg.sz p<=1048576):Fn Tryz.prog 171 [iUp p,iN 0] [iUp (Alg.C (lc p))]:=by
 have h0:=az hp;refine ak (fn:=Tryz.f171) (by rfl) rfl rfl rfl (by rfl) ?_;simp -dsimp -implicitDefEqProofs only[go_sem];refine an (fG p sp) ?_;simp -dsimp -implicitDefEqProofs only[go_sem];refine ar (args':=[iUp p,iN 0,iN ((Alg.sz p-1:Nat):Int)]) (by rw[show((Alg.sz p-1:Nat):Int)=(Alg.sz p:Int)-1 by omega]) (ol p (Alg.sz p-1) sp) ?_;simp -dsimp -implicitDefEqProofs only[go_sem];rfl
theorem U_X:U (mon 1 1)=[(e0.to 0 1,1)]:=by rw[zt 1 (by decide)];rfl
theorem pG (n:Nat):Alg.HB 0 (mon n 1):=Alg.HB.mon n (by decide) (by decide)
theorem rk (n:Nat):Alg.sz (mon n (1:Rat))=n+1:=lZ n (by decide)
theorem mH:fL ((1:Int):Rat)=U (mon 0 1):=by
 rw[zt 0 (by decide)];rfl
theorem IC (n:Nat) (hn:n<=524286):Fn Tryz.prog 173 [iUp (mon 1 1),iN n] [iUp (mon n 1)]:=by
 refine ak (fn:=Tryz.f173) (by rfl) rfl rfl rfl (by rfl) ?_;have e1:decide ((n:Int)<0)=false:=aj (by omega);simp -dsimp -implicitDefEqProofs only[go_sem,e1];refine an (Fq 1 (by decide)) ?_;simp -dsimp -implicitDefEqProofs only[go_sem];refine aJ [(5,6),(11,18)] [] [] (fun m τ β ε=>∃ i:Nat,m=n-i/\i<=n/\τ 6 = .i (iN i)/\τ 5 = .i (iUp (mon i 1)))
  (fun e τ β ε=>e = .exit 0/\τ 5 = .i (iUp (mon n 1))) n ?_ ?_ ?_
 ·exact⟨0,by omega,by omega,rfl,by simp -dsimp -implicitDefEqProofs only[go_sem];rw[mH]⟩
 ·rintro m τ β ε π hK hKB hKE ⟨i,hm,hi,h6,h5⟩;have k0:τ 0 = .i (iUp (mon 1 1)):=(hK 0 rfl).trans rfl;have k1:τ 1 = .i (iN n):=(hK 1 rfl).trans rfl;by_cases hlt:i<n
  ·have dA:decide ((i:Int)<(n:Int))=true:=ai (by omega);simp -dsimp -implicitDefEqProofs only[go_sem,h6,h5,k0,k1,dA];refine an (dM (pG i) (pG 1) (by omega) (by rw[rk];omega) (by rw[rk];omega)) ?_;rw[du];simp -dsimp -implicitDefEqProofs only[go_sem,h6]
   repeat(refine And.intro (by omega) ?_)
   refine again (n-(i+1)) (by omega) ⟨(by(repeat apply am rfl);exact hK),hKB,hKE,i+1,rfl,by omega,rfl,?_⟩
   simp -dsimp -implicitDefEqProofs only[go_sem];rw[show(1:Rat)*1=1 from Rat.mul_one 1]
  ·have dA:decide ((i:Int)<(n:Int))=false:=aj (by omega);obtain rfl:i=n:=by omega
   simp -dsimp -implicitDefEqProofs only[go_sem,h6,k1,dA];exact⟨(by(repeat apply am rfl);exact hK),hKB,hKE,h5⟩
 ·rintro e τ β ε π hK hKB hKE ⟨rfl,h5⟩;simp -dsimp -implicitDefEqProofs only[go_sem,h5]
theorem qU {p q:PQ} {h k:Nat} (hp:Alg.HB h p) (hq:Alg.HB k q) (hq0:q≠0) (hb:h+(Alg.sz p+2)*(k+1)+2*k<=68719476000) (sp:Alg.sz p<=262144) (sq:Alg.sz q<=262144):Fn Tryz.prog 135 [iUp p,iUp q,iN 0] [iUp (psr q (Alg.sz p) p),iN 0]:=by
 obtain⟨Q,hQ⟩:=fu hq0;have lQ:(U q).length=Q.length+1:=by rw[hQ];rfl
 have e1:decide (((U q).length:Int)=0)=false:=by rw[lQ];exact aj (by omega)
 have hq1:=az hq0;refine ak (fn:=Tryz.f135) (by rfl) rfl rfl rfl (by rfl) ?_;simp -dsimp -implicitDefEqProofs only[go_sem,e1,af];refine an (fG q (by omega)) ?_;simp -dsimp -implicitDefEqProofs only[go_sem];refine an (Fw q hq0 (by omega)) ?_;simp -dsimp -implicitDefEqProofs only[go_sem];refine an (fG p (by omega)) ?_;simp -dsimp -implicitDefEqProofs only[go_sem];refine aJ [(10,12),(27,49)] [] [] (fun n τ β ε=>∃(t:Nat) (r:PQ) (j:Nat),n=t/\Alg.sz r<=t/\psr q t r=psr q (Alg.sz p) p/\t<=Alg.sz p/\j+t<=Alg.sz p/\Alg.HB (h+j*(k+1)) r/\τ 11 = .i (iN ((t:Int)-1))/\τ 10 = .i (iUp r))
  (fun e τ β ε=>e = .exit 0/\τ 10 = .i (iUp (psr q (Alg.sz p) p))) (Alg.sz p) ?_ ?_ ?_
 ·exact⟨Alg.sz p,p,0,rfl,ae _,rfl,ae _,by omega,by simpa using hp,rfl,rfl⟩
 ·rintro n τ β ε π hK hKB hKE ⟨t,r,j,hn,hs,hps,htp,hjt,hr,h11,h10⟩;have k1:τ 1 = .i (iUp q):=(hK 1 rfl).trans rfl;have k2:τ 2 = .i (iN 0):=(hK 2 rfl).trans rfl;have k8:τ 8 = .i (iN ((Alg.sz q:Int)-1)):=(hK 8 rfl).trans rfl;have k9:τ 9 = .i (iUp (Alg.C (lc q))):=(hK 9 rfl).trans rfl;by_cases hlt:Alg.sz q<=t
  ·obtain⟨t',rfl⟩:∃ t',t=t'+1:=⟨t-1,by omega⟩;have ei:((t'+1:Nat):Int)-1=(t':Int):=by omega
   have dA:decide (((Alg.sz q:Int)-1)<=(t':Int))=true:=ai (by omega);have ek:(t':Int)-((Alg.sz q:Int)-1)=((t'+1-Alg.sz q:Nat):Int):=by omega
   rw[ei]at h11;have hjk:j*(k+1)+(k+1)<=(Alg.sz p+2)*(k+1):=by rw[<-Nat.succ_mul];exact Nat.mul_le_mul_right _ (by omega)
   have c1:=gQ (r.c t');have c2:=gQ (lc q);have c3:=aM (Alg.C (r.c t')) (mon (t'+1-Alg.sz q) 1);have c4:=aM (Alg.C (lc q)) r;have c5:=aM (Alg.C (r.c t')*mon (t'+1-Alg.sz q) 1) q;rw[rk]at c3;simp -dsimp -implicitDefEqProofs only[go_sem,h10,h11,k1,k2,k8,k9,dA];refine an (ol r t' (by omega)) ?_;simp -dsimp -implicitDefEqProofs only[go_sem,h10,h11,k1,k2,k8,k9];refine aa (gV 0 (by omega)) rfl ?_;simp -dsimp -implicitDefEqProofs only[go_sem,h10,h11,k1,k2,k8,k9,ek]
   repeat(refine And.intro (by omega) ?_)
   refine ar (args':=[iUp (mon 1 1),iN ((t'+1-Alg.sz q:Nat):Int)]) (by rw[<-U_X]) (IC (t'+1-Alg.sz q) (by omega)) ?_;simp -dsimp -implicitDefEqProofs only[go_sem];refine an (dM (lL hr t') (pG _) (by omega) (by omega) (by rw[rk];omega)) ?_;simp -dsimp -implicitDefEqProofs only[go_sem,h10,h11,k1,k2,k8,k9];refine an (dM (lL hq (Alg.sz q-1)) hr (by omega) (by have:=gQ (q.c (Alg.sz q-1));omega) (by omega)) ?_;simp -dsimp -implicitDefEqProofs only[go_sem,h10,h11,k1,k2,k8,k9];refine an (dM ((lL hr t').mul (pG _)) hq (by omega) (by omega) (by omega)) ?_;simp -dsimp -implicitDefEqProofs only[go_sem,h10,h11,k1,k2,k8,k9];refine an (zw ((lL hq (Alg.sz q-1)).mul hr) (((lL hr t').mul (pG _)).mul hq) (by omega) (by omega) (by show Alg.sz (Alg.C (lc q)*r)<=_;omega) (by omega)) ?_;simp -dsimp -implicitDefEqProofs only[go_sem,h11]
   repeat(refine And.intro (by omega) ?_)
   refine again t' (by omega) ⟨(by(repeat apply am rfl);exact hK),hKB,hKE,t',pst q t' r,j+1,rfl,AF hq0 hs hlt,?_,by omega,by omega,(hr.pstep hq _ _ _).mono (by rw[Nat.succ_mul];omega),rfl,?_⟩
   ·rw[<-hps];simp only[psr];rw[if_pos hlt]
   ·simp -dsimp -implicitDefEqProofs only[go_sem];rw[pst,<-cH (r.c t'),du,Nat.zero_add,show r.c t'*1=r.c t' from Rat.mul_one _]
  ·have dA:decide (((Alg.sz q:Int)-1)<=((t:Int)-1))=false:=aj (by omega);have hpr:psr q t r=r:=by
    cases t with
    | zero=>rfl
    | succ t=>simp only[psr];rw[if_neg hlt]
   simp -dsimp -implicitDefEqProofs only[go_sem,h10,h11,k8,dA];rw[hpr]at hps;exact⟨(by(repeat apply am rfl);exact hK),hKB,hKE,by rw[<-hps]⟩
 ·rintro e τ β ε π hK hKB hKE ⟨rfl,h10⟩;simp -dsimp -implicitDefEqProofs only[go_sem,h10]
end Go.AM
namespace Go.AM
open Alg
open Go.Proofs
open Classical
theorem hzU (x:PQ):decide (((U x).length:Int)=0)=decide (x=0):=by
 rw[decide_eq_decide];constructor
 ·intro h;exact mN.1 (List.eq_nil_of_length_eq_zero (by omega))
 ·rintro rfl;rw[bR];rfl
theorem ce {p:PQ} {h:Nat} (hp:Alg.HB h p) (hb:h<=137438953000) (sp:Alg.sz p<=1048576):Fn Tryz.prog 129 [iUp p] [iUp (Alg.mo p)]:=by
 refine ak (fn:=Tryz.f129) (by rfl) rfl rfl rfl (by rfl) ?_;by_cases hp0:p=0
 ·subst hp0;have e1:decide (((U 0).length:Int)=0)=true:=by rw[bR];rfl
  simp -dsimp -implicitDefEqProofs only[go_sem,e1,af];rw[fc,jZ,bR];rfl
 ·obtain⟨R,hR⟩:=fu hp0;have lR:(U p).length=R.length+1:=by rw[hR];rfl
  have cR:(U p)[0]?=some (⟨((Alg.sz p-1:Nat):Int),0,0,0⟩,lc p):=by rw[hR];rfl
  have e1:decide (((U p).length:Int)=0)=false:=by rw[lR];exact aj (by omega)
  have hqq:QB 17179869184 (lc p):=gB (hp.coef _).1 (hp.coef _).2 (by omega);have hl:=bu hp0;obtain⟨b1,b2⟩:=i7 (x:=1) (h:=0) hl ⟨by decide,by decide⟩ (hp.coef (Alg.sz p-1));simp -dsimp -implicitDefEqProofs only[go_sem,e1,af];refine ao (by rfl) 9 [] false true (by rfl) (by rfl) (by decide +kernel) ?_;simp -dsimp -implicitDefEqProofs only[go_sem];refine an (cY 1 (by decide)) ?_;simp -dsimp -implicitDefEqProofs only[go_sem,Int.reduceToNat,Int.reduceLE,ag];refine av cR ?_;simp -dsimp -implicitDefEqProofs only[go_sem,Int.reduceToNat,Int.reduceLE,ag];refine ar (args':=[iQ 1,iQ (lc p)]) rfl (vH 1 _ hl mS hqq) ?_;simp -dsimp -implicitDefEqProofs only[go_sem];refine aa (lu hp (by omega) sp (gB b1 b2 (by omega))) rfl ?_;simp -dsimp -implicitDefEqProofs only[go_sem,yl]
theorem IE:Fn Tryz.prog 131 [] [iUp 1]:=by
 refine ak (fn:=Tryz.f131) (by rfl) rfl rfl rfl (by rfl) ?_;simp -dsimp -implicitDefEqProofs only[go_sem];refine an (cY 1 (by decide)) ?_;simp -dsimp -implicitDefEqProofs only[go_sem];refine ar (args':=[iQ ((1:Int):Rat)]) rfl (ny _ (oo (n:=1) (by decide) _ (by decide))) ?_;simp -dsimp -implicitDefEqProofs only[go_sem];rw[mH,cH];rfl
theorem Di {p q:PQ} (hp:p≠0) (hq:q≠0) (sp:Alg.sz p<=1048576) (sq:Alg.sz q<=1048576):Fn Tryz.prog 130 [iUp p,iUp q] [iN (if Alg.sz p=1/\Alg.sz q=1 then -1 else 0)]:=by
 have dp:∀ v:Nat,v<4->Fn Tryz.prog 44 [iUp p,iN v] [iN (if v=0 then(Alg.sz p:Int)-1 else 0)]:=fun v hv=>by
  have:=uk (U p) v hv (by have:=cJ p;omega);by_cases h:v=0
  ·subst h;rw[qi]at this;exact this
  ·rw[rD p hp v (by omega)]at this;rwa [if_neg h]
 have dq:∀ v:Nat,v<4->Fn Tryz.prog 44 [iUp q,iN v] [iN (if v=0 then(Alg.sz q:Int)-1 else 0)]:=fun v hv=>by
  have:=uk (U q) v hv (by have:=cJ q;omega);by_cases h:v=0
  ·subst h;rw[qi]at this;exact this
  ·rw[rD q hq v (by omega)]at this;rwa [if_neg h]
 have hp1:=az hp;have hq1:=az hq;refine ak (fn:=Tryz.f130) (by rfl) rfl rfl rfl (by rfl) ?_;simp -dsimp -implicitDefEqProofs only[go_sem];refine aJ [(5,21)] [] [] (fun n τ β ε=>∃ v:Int,n=(v+1).toNat /\ -1<=v/\v<=3/\(v<0->Alg.sz p=1/\Alg.sz q=1)/\τ 5 = .i (iN v))
  (fun e τ β ε=>e = .exit 0/\τ 5 = .i (iN (if Alg.sz p=1/\Alg.sz q=1 then -1 else 0))) 4 ?_ ?_ ?_
 ·exact⟨3,by omega,by omega,by omega,by omega,rfl⟩
 ·rintro n τ β ε π hK hKB hKE ⟨v,hn,hv0,hv,hz,h5⟩;have k0:τ 0 = .i (iUp p):=(hK 0 rfl).trans rfl;have k1:τ 1 = .i (iUp q):=(hK 1 rfl).trans rfl;by_cases hv1:v = -1
  ·subst hv1;simp -dsimp -implicitDefEqProofs only[go_sem,h5,Int.reduceLE,decide_false];refine⟨(by(repeat apply am rfl);exact hK),hKB,hKE,?_⟩
   rw[if_pos (hz (by omega))]
  ·have dA:decide ((0:Int)<=v)=true:=ai (by omega);obtain⟨u,rfl⟩:∃ u:Nat,v=u:=⟨v.toNat,by omega⟩;simp -dsimp -implicitDefEqProofs only[go_sem,h5,k0,k1,dA];refine an (dp u (by omega)) ?_;by_cases hu:u=0
   ·rw[if_pos hu];by_cases hs:Alg.sz p=1
    ·have e1:decide (((Alg.sz p:Int)-1)<1)=true:=ai (by omega);simp -dsimp -implicitDefEqProofs only[go_sem,e1,h5,k1];refine an (dq u (by omega)) ?_;rw[if_pos hu];by_cases ht:Alg.sz q=1
     ·have e2:decide (((Alg.sz q:Int)-1)<1)=true:=ai (by omega);simp -dsimp -implicitDefEqProofs only[go_sem,e2,h5]
      repeat(refine And.intro (by omega) ?_)
      refine again 0 (by omega) ⟨(by(repeat apply am rfl);exact hK),hKB,hKE,-1,by omega,by omega,by omega,fun _=>⟨hs,ht⟩,?_⟩
      simp -dsimp -implicitDefEqProofs only[go_sem];rw[hu];rfl
     ·have e2:decide (((Alg.sz q:Int)-1)<1)=false:=aj (by omega);simp -dsimp -implicitDefEqProofs only[go_sem,e2];refine⟨(by(repeat apply am rfl);exact hK),hKB,hKE,?_⟩
      rw[if_neg (fun h=>ht h.2),h5,hu];rfl
    ·have e1:decide (((Alg.sz p:Int)-1)<1)=false:=aj (by omega);simp -dsimp -implicitDefEqProofs only[go_sem,e1];refine⟨(by(repeat apply am rfl);exact hK),hKB,hKE,?_⟩
     rw[if_neg (fun h=>hs h.1),h5,hu];rfl
   ·rw[if_neg hu];simp -dsimp -implicitDefEqProofs only[go_sem,h5,k1,Int.reduceLT,decide_true];refine an (dq u (by omega)) ?_;rw[if_neg hu];simp -dsimp -implicitDefEqProofs only[go_sem,h5,Int.reduceLT,decide_true]
    repeat(refine And.intro (by omega) ?_)
    refine again u (by omega) ⟨(by(repeat apply am rfl);exact hK),hKB,hKE,(u:Int)-1,by omega,by omega,by omega,fun _=>by omega,rfl⟩
 ·rintro e τ β ε π hK hKB hKE ⟨rfl,h5⟩;simp -dsimp -implicitDefEqProofs only[go_sem,h5]
theorem mQ {p q:PQ} {h k:Nat} (hp:Alg.HB h p) (hq:Alg.HB k q) (hb:h<=137438953000) (hb':k<=137438953000) (sp:Alg.sz p<=1048576) (sq:Alg.sz q<=1048576) (hc:p=0\/q=0\/(Alg.sz p=1/\Alg.sz q=1)):Fn Tryz.prog 94 [iUp p,iUp q] [iUp (kq p q)]:=by
 refine ak (fn:=Tryz.f94) (by rfl) rfl rfl rfl (by rfl) ?_;by_cases hp0:p=0
 ·have e1:=hzU p;rw[ai hp0]at e1;simp -dsimp -implicitDefEqProofs only[go_sem,e1,af];refine aa (ce hq hb' sq) rfl ?_;simp -dsimp -implicitDefEqProofs only[go_sem];rw[kq,if_pos hp0]
 ·have e1:=hzU p;rw[aj hp0]at e1;by_cases hq0:q=0
  ·have e2:=hzU q;rw[ai hq0]at e2;simp -dsimp -implicitDefEqProofs only[go_sem,e1,e2,af];refine aa (ce hp hb sp) rfl ?_;simp -dsimp -implicitDefEqProofs only[go_sem];rw[kq,if_neg hp0,if_pos hq0]
  ·have e2:=hzU q;rw[aj hq0]at e2;have h1:Alg.sz p=1/\Alg.sz q=1:=by rcases hc with h|h|h<;>first|exact absurd h hp0|exact absurd h hq0|exact h
   have tp:=Di hp0 hq0 sp sq;rw[if_pos h1]at tp;simp -dsimp -implicitDefEqProofs only[go_sem,e1,e2,af];refine aa tp rfl ?_;simp -dsimp -implicitDefEqProofs only[go_sem,Int.reduceLT,decide_true];refine an IE ?_;simp -dsimp -implicitDefEqProofs only[go_sem];rw[kq,if_neg hp0,if_neg hq0]
theorem zE (p:PQ) (sp:Alg.sz p<=1048575):Fn Tryz.prog 167 [iUp p,iN 0] [.c (.lst (bS (fun i=>U (Alg.C (p.c i))) (Alg.sz p)))]:=by
 have hlen:∀(f:Nat->List Tm) (n:Nat),(bS f n).length=n:=fun f n=>by simp[bS]
 refine ak (fn:=Tryz.f167) (by rfl) rfl rfl rfl (by rfl) ?_;simp -dsimp -implicitDefEqProofs only[go_sem];refine bL 5 7 1 (rs:=[]) rfl (by simp) ?_;refine aS [(5,6),(8,21)] [] [(7,7),(21,21)] (fun n τ β ε=>∃ i:Nat,n=Alg.sz p-i/\i<=Alg.sz p/\τ 6 = .i (iN i)/\Own 1 (bS (fun i=>U (Alg.C (p.c i))) i) 5 7 τ ε)
  (fun e τ β ε=>e = .exit 0/\Own 1 (bS (fun i=>U (Alg.C (p.c i))) (Alg.sz p)) 5 7 τ ε) (Alg.sz p) ?_ ?_ ?_
 ·exact⟨0,by omega,by omega,rfl,Own.mk (g:=1) (mm:=false) (by omega) rfl rfl rfl⟩
 ·rintro n τ β ε π hK hKB hKE ⟨i,hn,hi,h6,g,mm,hg,h5,h7⟩;rw[hlen]at h5;have k0:τ 0 = .i (iUp p):=(hK 0 rfl).trans rfl;have k1:τ 1 = .i (iN 0):=(hK 1 rfl).trans rfl;simp -dsimp -implicitDefEqProofs only[go_sem,h6,k0,k1];refine an (fG p (by omega)) ?_;by_cases hlt:i<Alg.sz p
  ·have dA:decide ((i:Int)<=(Alg.sz p:Int)-1)=true:=ai (by omega);simp -dsimp -implicitDefEqProofs only[go_sem,h6,k0,k1,dA,h5];refine an (ol p i (by omega)) ?_;simp -dsimp -implicitDefEqProofs only[go_sem,h5,h7,hg,h6,hlen]
   repeat(refine And.intro (by omega) ?_)
   refine aH (Alg.sz p-(i+1)) 5 21 7 (by omega) rfl rfl (by omega) (by decide) ⟨(by(repeat apply am rfl);exact hK),hKB,(by(repeat apply am rfl);exact hKE),i+1,rfl,by omega,rfl,?_⟩
   refine Own.mk2 (Nat.succ_pos _) (by simp -dsimp -implicitDefEqProofs only[go_sem];rfl) (by simp -dsimp -implicitDefEqProofs only[go_sem];rfl) (by simp[hlen]) ?_;unfold bS;rw[List.range_succ,List.map_append];rfl
  ·have dA:decide ((i:Int)<=(Alg.sz p:Int)-1)=false:=aj (by omega);obtain rfl:i=Alg.sz p:=by omega
   simp -dsimp -implicitDefEqProofs only[go_sem,dA];exact⟨(by(repeat apply am rfl);exact hK),hKB,hKE,Own.mk hg h5 (by rw[hlen]) h7⟩
 ·rintro e τ β ε π hK hKB hKE ⟨rfl,g,mm,hg,h5,h9⟩;refine⟨_,aY.refl _,?_⟩;simp -dsimp -implicitDefEqProofs only[go_sem,h5,h9,hg,hlen];rw[List.take_of_length_le (by rw[hlen];omega)]
theorem lz {p:PQ} {h:Nat} (hp:Alg.HB h p) (hb:h<=137438953000) (hp0:p≠0) (sp:Alg.sz p<=1048575):Fn Tryz.prog 132 [iUp p,iN 0] [iUp 1]:=by
 have hlen:∀(f:Nat->List Tm) (n:Nat),(bS f n).length=n:=fun f n=>by simp[bS]
 have hrow:∀ j,j<Alg.sz p->(bS (fun i=>U (Alg.C (p.c i))) (Alg.sz p))[j]?=some [cM (U (Alg.C (p.c j)))]:=fun j hj=>by rw[bS,List.getElem?_map,List.getElem?_range hj];rfl
 have hp1:=az hp0;refine ak (fn:=Tryz.f132) (by rfl) rfl rfl rfl (by rfl) ?_;simp -dsimp -implicitDefEqProofs only[go_sem];refine an (zE p sp) ?_;simp -dsimp -implicitDefEqProofs only[go_sem];refine ni (aY.imm _ 6 (x:=iM []) rfl) ?_;refine aJ [(6,7),(12,23)] [] [] (fun n τ β ε=>∃ i:Nat,n=Alg.sz p-i/\i<=Alg.sz p/\τ 7 = .i (iN i)/\τ 6 = .i (iUp (if ∃ j,j<i/\p.c j≠0 then 1 else 0)))
  (fun e τ β ε=>e = .exit 0/\τ 6 = .i (iUp 1)) (Alg.sz p) ?_ ?_ ?_
 ·exact⟨0,by omega,by omega,rfl,by simp -dsimp -implicitDefEqProofs only[go_sem];rw[if_neg (fun⟨j,h,_⟩=>by omega),jZ,bR]⟩
 ·rintro n τ β ε π hK hKB hKE ⟨i,hn,hi,h7,h6⟩;have k5:τ 5 = .i (.c (.lst (bS (fun i=>U (Alg.C (p.c i))) (Alg.sz p)))):=(hK 5 rfl).trans rfl;by_cases hlt:i<Alg.sz p
  ·have dA:decide ((i:Int)<(Alg.sz p:Int))=true:=ai (by omega);have c1:Alg.C (1:Rat)=(1:PQ):=bU;have c0:Alg.C (0:Rat)=(0:PQ):=cu;have hg:kq (if ∃ j,j<i/\p.c j≠0 then 1 else 0) (Alg.C (p.c i))=if ∃ j,j<i+1/\p.c j≠0 then 1 else 0:=by
    have a:=tw (if ∃ j,j<i/\p.c j≠0 then 1 else 0) (p.c i)
    by_cases h1:∃ j,j<i/\p.c j≠0
    ·rw[if_pos h1,c1]at a;rw[if_pos h1,a,if_neg (fun h=>absurd h.1 (by decide)),if_pos (by obtain⟨j,h2,h3⟩:=h1;exact⟨j,by omega,h3⟩)]
    ·rw[if_neg h1,c0]at a;rw[if_neg h1,a];by_cases h2:p.c i=0
     ·rw[if_pos ⟨rfl,h2⟩,if_neg];rintro ⟨j,h3,h4⟩;by_cases e:j=i
      ·rw[e]at h4;exact h4 h2
      ·exact h1 ⟨j,by omega,h4⟩
     ·rw[if_neg (fun h=>h2 h.2),if_pos ⟨i,by omega,h2⟩]
   have call:Fn Tryz.prog 94 [iUp (if ∃ j,j<i/\p.c j≠0 then 1 else 0),iUp (Alg.C (p.c i))] [iUp (kq (if ∃ j,j<i/\p.c j≠0 then 1 else 0) (Alg.C (p.c i)))]:=by
    by_cases h1:∃ j,j<i/\p.c j≠0
    ·rw[if_pos h1];refine mQ (cF 0) (lL hp i) (by omega) hb (by rw[cf];omega) (by have:=gQ (p.c i);omega) ?_;rcases M6 (p.c i)with h|h
     ·exact .inr (.inl h)
     ·exact .inr (.inr ⟨cf,h⟩)
    ·rw[if_neg h1];exact mQ (Alg.HB.zero 0) (lL hp i) (by omega) hb (by rw[ap.2 rfl];omega) (by have:=gQ (p.c i);omega) (.inl rfl)
   rw[hg]at call;simp -dsimp -implicitDefEqProofs only[go_sem,h7,h6,k5,dA,hlen];refine⟨_,hrow i hlt,?_⟩;simp -dsimp -implicitDefEqProofs only[go_sem,h7,h6,k5,Int.reduceToNat,Int.reduceLE,ag];refine an call ?_;simp -dsimp -implicitDefEqProofs only[go_sem,h7]
   repeat(refine And.intro (by omega) ?_)
   exact again (Alg.sz p-(i+1)) (by omega) ⟨(by(repeat apply am rfl);exact hK),hKB,hKE,i+1,rfl,by omega,rfl,rfl⟩
  ·have dA:decide ((i:Int)<(Alg.sz p:Int))=false:=aj (by omega);obtain rfl:i=Alg.sz p:=by omega
   rw[if_pos ⟨Alg.sz p-1,by omega,bu hp0⟩]at h6;simp -dsimp -implicitDefEqProofs only[go_sem,h7,k5,dA,hlen];exact⟨(by(repeat apply am rfl);exact hK),hKB,hKE,h6⟩
 ·rintro e τ β ε π hK hKB hKE ⟨rfl,h6⟩;simp -dsimp -implicitDefEqProofs only[go_sem,h6]
theorem Fs {p q s:PQ} {h k:Nat} (hp:Alg.HB h p) (hq:Alg.HB k q) (hq0:q≠0) (hb:h+(Alg.sz p+2)*(k+1)+k<=137438953000) (sp:Alg.sz p<=524288) (sq:Alg.sz q<=524288) (e:p=s*q):Fn Tryz.prog 168 [iUp p,iUp q] [iUp s]:=by
 have:=uj hp hq hq0 hb sp sq;rw[ge hq0 e]at this;refine ak (fn:=Tryz.f168) (by rfl) rfl rfl rfl (by rfl) ?_;simp -dsimp -implicitDefEqProofs only[go_sem];refine an this ?_;simp -dsimp -implicitDefEqProofs only[go_sem]
theorem gt {p:PQ} {h:Nat} (hp:Alg.HB h p) (hb:h+2*Alg.sz p+2<=137438953000) (sp:Alg.sz p<=524288):Fn Tryz.prog 133 [iUp p,iN 0] [iUp p]:=by
 have hz:=hzU p;refine ak (fn:=Tryz.f133) (by rfl) rfl rfl rfl (by rfl) ?_;by_cases hp0:p=0
 ·rw[ai hp0]at hz;simp -dsimp -implicitDefEqProofs only[go_sem,hz,af];rw[jZ,hp0,bR];rfl
 ·rw[aj hp0]at hz;simp -dsimp -implicitDefEqProofs only[go_sem,hz,af];refine an (lz hp (by omega) hp0 (by omega)) ?_;simp -dsimp -implicitDefEqProofs only[go_sem];refine aa (Fs hp (cF 0) fa (by omega) sp (by rw[cf];omega) (s:=p) (mul_one p).symm) rfl ?_;simp -dsimp -implicitDefEqProofs only[go_sem]
end Go.AM
