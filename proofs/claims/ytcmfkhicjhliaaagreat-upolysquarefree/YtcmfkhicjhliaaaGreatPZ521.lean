/- Lemmas, part 22 of 23. No condition. -/
import Derived.Test.YtcmfkhicjhliaaaGreatPZ520
import Derived.ProofKit
import Derived.Deep.Slices
import Derived.OpenShut
import Derived.Test.YtcmfkhicjhliaaaGreatRows
set_option maxRecDepth 65536
set_option linter.unusedSimpArgs false
set_option linter.unusedVariables false
set_option linter.unusedSectionVars false
namespace Go.AM
open Alg
open Go.Proofs
open Classical
theorem RE:FB 0 (1:KQ):=by have:=gG (z:=1) (w:=0) aH;rwa [d7]at this
theorem Io:∀(L:List KP) (A:KP) (w k:Nat),Alg.PC w A->aa A<=2*k+1->k+L.length<=5->(∀ x∈L,Alg.PC 17 x/\aa x<=3)->Alg.PC (w+21*L.length) (L.foldl (· * ·) A)/\aa (L.foldl (· * ·) A)<=2*(k+L.length)+1
 | [],A,w,k,hA,hs,_,_=>⟨by simpa using hA,by simpa using hs⟩
 | x::L,A,w,k,hA,hs,hk,hx=>by
  obtain⟨x1,x2⟩:=hx x (.head _);simp only[List.length_cons]at hk;have h1:=hA.mul x1 (k:=4) aw;have h2:=DC A x;obtain⟨a,b⟩:=Io L (A*x) (w+17+4) (k+1) h1 aw aw fun y hy=>hx y (.tail _ hy);simp only[List.length_cons,List.foldl_cons];exact⟨a.mono aw,aw⟩
theorem NA (L:List KP) (hl:L.length<=5) (hx:∀ x∈L,Alg.PC 17 x/\aa x<=3):PW (21*L.length) (pdl L)/\aa (pdl L)<=2*L.length+1:=by
 have h1:Alg.PC 0 (1:KP):=by rw[<-bP];exact Alg.PC.C RE
 obtain⟨a,b⟩:=Io L 1 0 0 h1 (by rw[cY];omega) aw hx;have e:2*(0+L.length)+1=2*L.length+1:=aw;rw[e]at b;exact⟨(PC.pw a).mono aw,b⟩
theorem PS {l:List (KP×Nat)} (hl:l.length<=100) (hf:(flt l).length<=4) (hx:∀ x∈l,Alg.PC 17 x.1/\aa x.1<=3):Fn Tryz.prog 33 [.c (.lst (l.map sqr))] [ku (pdl (flt l))]:=by
 have key:∀ i (hi:i<l.length),(flt (l.take i)).length+l[i].2<=4:=fun i hi=>by
  have h1:flt (l.take (i+1))=flt (l.take i)++List.replicate l[i].2 l[i].1:=by
   rw[flt,aq hi,List.flatMap_append];simp[flt]
  have h2:flt l=flt (l.take (i+1))++flt (l.drop (i+1)):=by
   rw[flt,flt,flt,<-List.flatMap_append,List.take_append_drop]
  have h3:=congrArg List.length h2;rw[h1]at h3;simp only[List.length_append,List.length_replicate]at h3;omega
 refine RB hl (fun i hi=>?_) fun i hi n hn=>?_
 ·have:=key i hi;omega
 ·have hk:=key i hi;have hm:=hx _ (List.getElem_mem hi);rw[Ie];obtain⟨a,b⟩:=NA (flt (l.take i)++List.replicate n l[i].1) ar (fun x h=>by
   obtain h|h:=List.mem_append.1 h
   ·obtain⟨y,hy,h⟩:=List.mem_flatMap.1 h;rw[(List.mem_replicate.1 h).2];exact hx _ (List.mem_of_mem_take hy)
   ·rw[(List.mem_replicate.1 h).2];exact hm)
  have hL:(flt (l.take i)++List.replicate n l[i].1).length<=4:=by simp;omega
  have hb:aa l[i].1*(17+21*(flt (l.take i)++List.replicate n l[i].1).length+1)<=3*(17+84+1):=Nat.mul_le_mul hm.2 aw;exact EO a (PC.pw hm.1) aw (by have:=hm.2;show aa (pdl _)+_<=_;omega)
section
variable {a b:KQ}
noncomputable abbrev PN (a:KQ) (n:Nat):KP:=pdl (List.replicate n (LN a))
theorem xN (a:KQ):PN a 0=1:=rfl
theorem jx (a:KQ) (n:Nat):PN a (n+1)=PN a n*LN a:=by rw[PN,List.replicate_succ',pW]
theorem Ik (a:KQ):∀ n,PN a n≠0
 | 0=>f8
 | n+1=>by rw[jx];exact a6 (Ik a n) (dv a)
theorem Il (a:KQ):∀ n,lc (PN a n)=1
 | 0=>by rw[xN,<-bP,mV]
 | n+1=>by rw[jx];exact lcm1 (Il a n) (jo a)
theorem zI (a:KQ):∀ n,aa (PN a n)=n+1
 | 0=>cY
 | n+1=>by rw[jx,szm (Ik a n) (dv a),zI a n,cO];omega
theorem Ij (ha:FB 8 a):∀ n,n<=4->Alg.PC (11*n) (PN a n)
 | 0,_=>by rw[xN,<-bP];exact Alg.PC.C RE
 | n+1,h=>by
  rw[jx];exact((Ij ha n aw).mul (jg ha) (k:=3) (by rw[zI];omega)).mono aw
theorem Im (a:KQ):∀ n,der (PN a (n+1))=PN a n*an (ic ((n+1:Nat):Int))
 | 0=>by
  rw[jx,xN,one_mul,gT,one_mul];show(1:KP)=an (ic 1);rw[pj,bP]
 | n+1=>by
  have e:(ic ((n+1+1:Nat):Int):KQ)=ic ((n+1:Nat):Int)+1:=by rw[Int.natCast_succ (n+1),uK,pj]
  rw[jx a (n+1),oy,Im a n,gT,e,xf,bP,jx];exact ring [PN a n,LN a,an (ic ((n+1:Nat):Int))]
theorem icw {n:Nat} (h:n<=16):FB 4 (ic (n:Int):KQ):=Ee h
theorem EH (ha:FB 8 a) (N:Nat) (hN:N<=4):∀ m,1<=m->m<=N->SqR m (N-m+1) (LN a) (an (ic (m:Int))) [(LN a,N)]
 | 0,h,_=>absurd h aw
 | 1,_,h=>by
  have wa:=PC.pw (jg ha);have sa:=cO a;have h1:=yt (n:=N) wa aw (jo a) aw aw;rw[gT]at h1;rw[show N-1+1=N by omega,show(ic ((1:Nat):Int):KQ)=1 from pj,bP];exact h1
 | m+2,_,h=>by
  have wa:=PC.pw (jg ha);have sa:=cO a;have i1:(ic ((m+1:Nat):Int):KQ)≠0:=jp aw;have w1:PW 4 (an (ic ((m+1:Nat):Int)):KP):=qF (icw aw);have w2:PW 4 (an (ic ((m+1+1:Nat):Int)):KP):=qF (icw aw);have s1:aa (an (ic ((m+1:Nat):Int)):KP)=1:=tQ i1;have s2:aa (an (ic ((m+2:Nat):Int)):KP)=1:=tQ (jp aw);have n1:(an (ic ((m+1:Nat):Int)):KP)≠0:=d9 i1;have ih:=EH ha N hN (m+1) aw aw;have hd:(an (ic ((m+1+1:Nat):Int)):KP)-der (LN a)=an (ic ((m+1:Nat):Int)):=by
   have e:(ic ((m+1+1:Nat):Int):KQ)=ic ((m+1:Nat):Int)+1:=by rw[Int.natCast_succ (m+1),uK,pj]
   rw[gT,e,xf,bP];exact ring [an (ic ((m+1:Nat):Int))]
  have hr:ab (LN a) (an (ic ((m+1:Nat):Int)))=0:=Alg.ft i1;have hg:ai (LN a) (an (ic ((m+1:Nat):Int)))=1:=by rw[gd1 n1 hr,Gf i1]
  rw[show N-(m+1)+1=(N-(m+2)+1)+1 by omega]at ih;exact J6 (w:=8) (v:=4) (u:=4) wa w2 aw aw aw aw hd w1 aw aw hg (Bc n1 w1 aw aw hr (mM n1 wa w1 aw aw aw)) aw aw ih
theorem Rz {c:KQ} (ha:FB 8 a) (hc0:c≠0) (hc:FB 8 c) {n:Nat} (hn:n+1<=4):Fn Tryz.prog 31 [ku (PN a (n+1)*an c)] [.c (.lst ([(LN a,n+1)].map sqr))]:=by
 have i1:(ic ((n+1:Nat):Int):KQ)≠0:=jp aw;have wP:PW 44 (PN a (n+1)):=(PC.pw (Ij ha (n+1) hn)).mono aw;have wG:PW 33 (PN a n):=(PC.pw (Ij ha n aw)).mono aw;have wD0:PW 37 (PN a n*an (ic ((n+1:Nat):Int))):=wG.scale (icw aw);have nG:=Ik a n;have nD:=a6 nG (d9 i1);have s1:=zI a (n+1);have s2:=zI a n;have s3:aa (PN a n*an (ic ((n+1:Nat):Int)))=n+1:=by rw[jT _ i1,s2]
 have hr:ab (PN a (n+1)) (PN a n*an (ic ((n+1:Nat):Int)))=0:=DN i1 nG (q:=LN a) (by rw[jx,mul_comm]);have hg:ai (PN a (n+1)) (PN a n*an (ic ((n+1:Nat):Int)))=PN a n:=by rw[gd1 nD hr,sh i1 (Il a n)]
 have cG:=Bc nD wD0 aw aw hr (mM nD wP wD0 aw aw aw);have sp:aa (PN a (n+1)*an c)=n+2:=by rw[jT _ hc0,s1]
 have hR:=EH ha (n+1) hn (n+1) aw (ay _);rw[show n+1-(n+1)+1=1 by omega]at hR;refine MT (P:=PN a (n+1)) (D:=PN a n*an (ic ((n+1:Nat):Int))) (G:=PN a n) (Q1:=LN a) (Q2:=an (ic ((n+1:Nat):Int))) (m:=n+1) (wp:=52) (w:=44) (wg:=33) (wd:=37)
  aw aw aw (wP.scale hc) aw (sh hc0 (Il a _)) wP aw (Im a n) wD0 hg cG wG aw nG (by rw[jx,mul_comm]) (mul_comm _ _) ?_ ?_ aw hR
 ·exact ax (wD2 44 33 aw) aw
 ·exact ax (wD2 37 33 aw) aw
theorem dab:der (LN a*LN b)=LN a+LN b:=by
 rw[oy,gT,gT];exact ring [LN a,LN b]
theorem re11':ab (LN a*LN b) (LN a+LN b)=an (k11 a b):=re11 OF (jp (n:=2) aH)
theorem t7:aa (LN a+LN b)=2:=tP a b (jp (n:=2) aH)
theorem xA:LN a+LN b≠0:=fun h=>by have:=t7 (a:=a) (b:=b);rw[h,aM.2 rfl]at this;omega
theorem Ls (ha:FB 8 a) (hb:FB 8 b):PW 17 (LN a+LN b):=(PC.pw (jg ha)).add (PC.pw (jg hb))
theorem gd11 (hab:a≠b):ai (LN a*LN b) (LN a+LN b)=1:=by
 rw[gd2 xA re11' (d9 (rC hab)) (Alg.ft (rC hab)),Gf (rC hab)]
theorem Kx (hab:a≠b) (ha:FB 8 a) (hb:FB 8 b):Fn Tryz.prog 24 [ku (LN a*LN b),ku (LN a+LN b)] [ku (ai (LN a*LN b) (LN a+LN b))]:=by
 have k0:=rC hab;have wk:PW 36 (an (k11 a b):KP):=qF (Cv ha hb);have sk:aa (an (k11 a b):KP)=1:=tQ k0;have s2:=t7 (a:=a) (b:=b);have s3:aa (LN a*LN b)=3:=by rw[szm (dv a) (dv b),cO,cO]
 have wP:=PC.pw (pX ha hb);have wS:=Ls ha hb;exact Bb xA re11' (d9 k0) (Alg.ft k0) wk aw aw (mM xA wP wS aw aw aw) (mM (d9 k0) wS wk aw aw aw)
theorem Sq11 {c:KQ} (hab:a≠b) (ha:FB 8 a) (hb:FB 8 b) (hc0:c≠0) (hc:FB 8 c):Fn Tryz.prog 31 [ku (LN a*LN b*an c)] [.c (.lst ([(LN a*LN b,1)].map sqr))]:=by
 have s2:=t7 (a:=a) (b:=b);have s3:aa (LN a*LN b)=3:=by rw[szm (dv a) (dv b),cO,cO]
 have wP:=PC.pw (pX ha hb);have wS:=Ls ha hb;have l1:lc (LN a*LN b)=1:=lcm1 (jo a) (jo b);have sp:aa (LN a*LN b*an c)=3:=by rw[jT _ hc0,s3]
 have o1:aa (1:KP)=1:=cY;have hR:=yt (n:=1) wP aw l1 aw aw;rw[dab]at hR;refine MT (P:=LN a*LN b) (D:=LN a+LN b) (G:=1) (Q1:=LN a*LN b) (Q2:=LN a+LN b) (m:=1) (wp:=25) (w:=17) (wg:=0) (wd:=17)
  aw aw aw (wP.scale hc) aw (sh hc0 l1) wP aw dab wS (gd11 hab) (Kx hab ha hb) qG aw f8 (mul_one _).symm (mul_one _).symm ?_ ?_ aw hR
 ·rw[s3,o1];simp only[wD];omega
 ·rw[s2,o1];simp only[wD];omega
theorem QE {p q:KP} {c:KQ} (hc:c≠0) (hq:q≠0):ab p (q*an c)=ab p q:=by
 obtain⟨h1,h2⟩:=qure (a:=p) hq;refine oO (q:=qu p q*an (Alg.inv c)) ?_ (by rw[jT _ hc];exact h2);have e:(an c:KP)*an (Alg.inv c)=1:=by rw[<-bC,mul_inv hc,bP]
 have h3:qu p q*an (Alg.inv c)*(q*an c)+ab p q=qu p q*q*(an c*an (Alg.inv c))+ab p q:=ring [qu p q,an (Alg.inv c),q,an c,ab p q];rw[h3,e,mul_one];exact h1
theorem Sq22 {c:KQ} (hab:a≠b) (ha:FB 8 a) (hb:FB 8 b) (hc0:c≠0) (hc:FB 8 c):Fn Tryz.prog 31 [ku (LN a*LN b*(LN a*LN b)*an c)] [.c (.lst ([(LN a*LN b,2)].map sqr))]:=by
 have s2:=t7 (a:=a) (b:=b);have s3:aa (LN a*LN b)=3:=by rw[szm (dv a) (dv b),cO,cO]
 have ph:=pX ha hb;have wh:=PC.pw ph;have wS:=Ls ha hb;have l1:lc (LN a*LN b)=1:=lcm1 (jo a) (jo b);have nh:LN a*LN b≠0:=a6 (dv a) (dv b);have ns:=xA (a:=a) (b:=b);have g1:=gd11 hab;have cg:=Kx hab ha hb;have hd:=dab (a:=a) (b:=b);have hre:=re11' (a:=a) (b:=b);have k0:=rC hab;have fk:=Cv ha hb;generalize LN a*LN b=h at *
 generalize LN a+LN b=s at *
 generalize k11 a b=k at *
 have i2:(ic 2:KQ)≠0:=jp (n:=2) aH;have w2:FB 4 (ic 2:KQ):=icw (n:=2) aw;have C2:(an (ic 2:KQ):KP)=ic 2:=Ni 2;have wP:PW 36 (h*h):=PC.pw (ph.mul ph (k:=2) (by rw[s3];decide));have sP:aa (h*h)=5:=by rw[szm nh nh,s3]
 have hD:der (h*h)=s*h*an (ic 2):=by
  rw[oy,hd,C2];exact ring [h,s]
 have nsh:=a6 ns nh;have nD:=a6 nsh (d9 i2);have sD:aa (s*h*an (ic 2))=4:=by rw[jT _ i2,szm ns nh,s2,s3]
 have wD0:PW 39 (s*h*an (ic 2)):=by
  rw[<-hD];exact PC.pw ((ph.mul ph (k:=2) (by rw[s3];decide)).der (k:=3) (by rw[sP];decide))
 have hr:ab (h*h) (s*h*an (ic 2))=h*an k:=by rw[QE i2 nsh,re_f ns nh,hre,mul_comm]
 have nr:=a6 nh (d9 k0);have sr:aa (h*an k)=3:=by rw[jT _ k0,s3]
 have wr:PW 53 (h*an k):=wh.scale fk;have rr:ab (s*h*an (ic 2)) (h*an k)=0:=DN k0 nh (q:=s*an (ic 2)) (ring [s,h,an (ic 2)]);have hG:ai (h*h) (s*h*an (ic 2))=h:=by rw[gd2 nD hr nr rr,sh k0 l1]
 have cG:=Bb nD hr nr rr wr aw aw (mM nD wP wD0 aw aw aw) (mM nr wD0 wr aw aw aw);have sp:aa (h*h*an c)=5:=by rw[jT _ hc0,sP]
 have l2:lc (h*h)=1:=lcm1 l1 l1;have last:=yt (n:=2) wh aw l1 aw aw;rw[hd]at last;have wS2:PW 21 (s*an (ic 2)):=wS.scale w2;have e0:s*an (ic 2)-der h=s:=by
  rw[hd,C2];exact ring [s]
 refine MT (P:=h*h) (D:=s*h*an (ic 2)) (G:=h) (Q1:=h) (Q2:=s*an (ic 2)) (m:=2) (wp:=44) (w:=36) (wg:=17) (wd:=39)
  aw aw aw (wP.scale hc) aw (sh hc0 l2) wP aw hD wD0 hG cG wh aw nh rfl (ring [s,h,an (ic 2)]) ?_ ?_ aw
  (J6 (u:=17) wh wS2 aw aw aw (by rw[jT _ i2];omega) e0 wS aw aw g1 cg aw aw last)
 ·rw[sP,s3];simp only[wD];omega
 ·rw[sD,s3];simp only[wD];omega
end
structure SqL (F:KP) (l:List (KP×Nat)) (k:KQ):Prop where
 sq:Fn Tryz.prog 31 [ku (F*an k)] [.c (.lst (l.map sqr))]
 len:l.length<=2
 ok:∀ i (hi:i<l.length),(2<=aa l[i].1/\aa l[i].1<=3)/\(1<=l[i].2/\l[i].2<=4)/\mn l[i].1=l[i].1/\Alg.PC 17 l[i].1/\Fn Tryz.prog 25 [ku l[i].1,ku (der l[i].1)] [ku 1]
 inc:∀ i (hi:i+1<l.length),l[i].2<l[i+1].2
 cop:∀ i j (hi:i<l.length) (hj:j<i),Fn Tryz.prog 25 [ku l[i].1,ku l[j].1] [ku 1]
 prod:pdl (flt l)=F
 fl:(flt l).length<=4
 pos:(1<aa (F*an k))↔(0<l.length)
theorem MZ {p q:KP} {c:KQ} (hp:PW 17 p) (hq:PW 17 q) (sp:aa p<=3) (sq:aa q=2) (e:ab p q=an c) (hc:c≠0) (fc:FB 36 c):Fn Tryz.prog 25 [ku p,ku q] [ku (ai p q)]:=by
 have h0:q≠0:=fun h=>by rw[h,aM.2 rfl]at sq;omega
 have sc:=gN c;have wr:PW 36 (ab p q):=by rw[e];exact qF fc
 have c1:=yz h0 hp hq (by
  rw[sq];exact ax (Nat.mul_le_mul_left _ (Nat.add_le_add_right (Nat.add_le_add_right (pJ 17 17 (by omega:aa p+1-2<=2)) _) _)) aH) aw aw
 have em:mn (ab p q)=1:=by rw[e,Gf hc]
 have e1:gP p q 1=(q,1):=by show(q,mn (ab p q))=_;rw[em]
 have rq1:ab q 1=0:=re1 cY;have e2:gP p q 2=(1,0):=by
  show((gP p q 1).2,mn (ab (gP p q 1).1 (gP p q 1).2))=_;rw[e1];show((1:KP),mn (ab q 1))=_;rw[rq1,iJ]
 have c2:=yz f8 hq qG (by
  rw[cY];exact ax (Nat.mul_le_mul_left _ (Nat.add_le_add_right (Nat.add_le_add_right (pJ 17 0 (by omega:aa q+1-1<=2)) _) _)) aH) aw (by rw[cY];omega)
 refine qC (w:=fun i=>if i=0 then 36 else 0) 2 (by rw[e2]) (fun i hi=>?_) (fun i hi=>?_) (fun i hi=>?_) (by rw[e2];exact⟨qG,aH,by show aa (1:KP)<=1000;rw[cY];omega⟩)
 ·obtain rfl|rfl:i=0\/i=1:=aw
  ·exact h0
  ·rw[e1];exact f8
 ·obtain rfl|rfl:i=0\/i=1:=aw
  ·exact c1
  ·rw[e1];exact c2
 ·obtain rfl|rfl:i=0\/i=1:=aw
  ·exact⟨wr,aH,by show aa (ab p q)<=1000;rw[e];omega⟩
  ·rw[e1];show PW 0 (ab q 1)/\_;rw[rq1,aM.2 rfl];exact⟨fun i=>dY _,aH,aw⟩
theorem NK (p:KP):ai p 1=1:=by rw[gd1 f8 (re1 cY),lz (by rw[<-bP,mV])]
theorem SqL.one {F g:KP} {n:Nat} {k:KQ} (h:Fn Tryz.prog 31 [ku (F*an k)] [.c (.lst ([(g,n)].map sqr))]) (hk:k≠0) (s1:2<=aa g) (s2:aa g<=3) (n1:1<=n) (n4:n<=4) (hl:lc g=1) (hp:Alg.PC 17 g) (hG:Fn Tryz.prog 25 [ku g,ku (der g)] [ku (ai g (der g))])
  (h1:ai g (der g)=1) (hF:pdl (List.replicate n g)=F) (hz:1<aa F):SqL F [(g,n)] k where
 sq:=h
 len:=au
 ok:=fun i hi=>by
  obtain rfl:i=0:=by simpa using hi
  rw[h1]at hG;exact⟨⟨s1,s2⟩,⟨n1,n4⟩,lz hl,hp,hG⟩
 inc:=fun i hi=>by simp at hi
 cop:=fun i j hi hj=>by simp at hi;omega
 prod:=by rw[<-hF];simp[flt]
 fl:=by simpa [flt]using n4
 pos:=by rw[jT _ hk];simpa using hz
theorem SqL.none {k:KQ} (hk:k≠0):SqL 1 [] k where
 sq:=qL (by rw[jT _ hk,cY];omega)
 len:=au
 ok:=fun i hi=>by simp at hi
 inc:=fun i hi=>by simp at hi
 cop:=fun i j hi hj=>by simp at hi
 prod:=rfl
 fl:=by simp[flt]
 pos:=by rw[jT _ hk,cY];simp
section
variable {a b k:KQ} (ha:FB 8 a) (hb:FB 8 b) (hk:k≠0) (fk:FB 8 k)
include ha hk fk
theorem tj:∀ n,n<=4->∃ l,SqL (pdl (List.replicate n (LN a))) l k
 | 0,_=>⟨[],SqL.none hk⟩
 | n+1,h=>by
  have sa:=cO a;have hg:=yA (PC.pw (jg ha)) (qG.mono aw) aw (by rw[cY];omega);have hd:=gT a;exact⟨_,SqL.one (Rz ha hk fk h) hk aw aw aw h (jo a) ((jg ha).mono aw) (by rw[hd];exact hg) (by rw[hd];exact NK _) rfl (by have:=zI a (n+1);show 1<aa (PN a (n+1));omega)⟩
include hb
theorem J7 (hab:a≠b):SqL (LN a*LN a*LN b) [(LN b,1),(LN a,2)] k:=by
 have ga:=yA (PC.pw (jg ha)) (qG.mono aw) (by rw[cO];omega) (by rw[cY];omega);have gb:=yA (PC.pw (jg hb)) (qG.mono aw) (by rw[cO];omega) (by rw[cY];omega);rw[NK]at ga gb;have gab:=yA (PC.pw (jg ha)) (PC.pw (jg hb)) (by rw[cO];omega) (by rw[cO];omega);have e1:ab (LN a) (LN b)=an (b-a):=oO (q:=1) (by
  rw[one_mul,<-xT];exact ring [LN a,LN b]) (by rw[cO];have:=gN (b-a);omega)
 have n1:=HQ hab;rw[gd2 (dv b) e1 (d9 n1) (Alg.ft n1),Gf n1]at gab;have sP:aa (LN a*LN a*LN b)=4:=by rw[szm (a6 (dv a) (dv a)) (dv b),szm (dv a) (dv a),cO,cO]
 refine⟨RA hab ha hb hk fk,au,fun i hi=>?_,fun i hi=>?_,fun i j hi hj=>?_,?_,by simp[flt],?_⟩
 ·obtain rfl|rfl:i=0\/i=1:=by simp at hi;omega
  ·exact⟨⟨by simp[cO],by simp[cO]⟩,⟨au,au⟩,Ck b,(jg hb).mono aw,by rw[show der ([(LN b,1),(LN a,2)]:List (KP×Nat))[0].1=1 from gT b];exact gb⟩
  ·exact⟨⟨by simp[cO],by simp[cO]⟩,⟨au,au⟩,Ck a,(jg ha).mono aw,by rw[show der ([(LN b,1),(LN a,2)]:List (KP×Nat))[1].1=1 from gT a];exact ga⟩
 ·obtain rfl:i=0:=by simp at hi;omega
  simp
 ·obtain⟨rfl,rfl⟩:i=1/\j=0:=by simp at hi;omega
  exact gab
 ·show 1*LN b*LN a*LN a=_;exact ring [LN a,LN b]
 ·rw[jT _ hk,sP];simp
theorem J8 (hab:a≠b):SqL (LN a*LN b) [(LN a*LN b,1)] k/\SqL (LN a*LN b*(LN a*LN b)) [(LN a*LN b,2)] k:=by
 have s3:aa (LN a*LN b)=3:=by rw[szm (dv a) (dv b),cO,cO]
 have nh:LN a*LN b≠0:=a6 (dv a) (dv b);have hG:=MZ (PC.pw (pX ha hb)) (Ls ha hb) aw t7 re11' (rC hab) (Cv ha hb);have l1:lc (LN a*LN b)=1:=lcm1 (jo a) (jo b);have hd:=dab (a:=a) (b:=b);rw[<-hd]at hG;have h1:=gd11 hab;rw[<-hd]at h1;refine⟨SqL.one (Sq11 hab ha hb hk fk) hk aw aw aw aw l1 (pX ha hb) hG h1 (by show 1*(LN a*LN b)=_;rw[one_mul]) aw,
  SqL.one (Sq22 hab ha hb hk fk) hk aw aw aw aw l1 (pX ha hb) hG h1 (by show 1*(LN a*LN b)*(LN a*LN b)=_;rw[one_mul]) (by rw[szm nh nh,s3];omega)⟩
theorem MU {i j:Nat} (hi:i<=2) (hj:j<=2):∃ l,SqL (pdl (List.replicate i (LN a)++List.replicate j (LN b))) l k:=by
 by_cases hab:a=b
 ·subst hab;rw[List.replicate_append_replicate];exact tj ha hk fk _ aw
 have hba:b≠a:=fun h=>hab h.symm;obtain rfl|rfl|rfl:i=0\/i=1\/i=2:=aw
 ·exact tj hb hk fk j aw
 ·obtain rfl|rfl|rfl:j=0\/j=1\/j=2:=aw
  ·rw[List.replicate_zero,List.append_nil];exact tj ha hk fk 1 aw
  ·refine⟨[(LN a*LN b,1)],?_⟩;have:=(J8 ha hb hk fk hab).1;have e:pdl (List.replicate 1 (LN a)++List.replicate 1 (LN b))=LN a*LN b:=by show 1*LN a*LN b=_;rw[one_mul]
   rw[e];exact this
  ·refine⟨[(LN a,1),(LN b,2)],?_⟩;have:=J7 hb ha hk fk hba;have e:pdl (List.replicate 1 (LN a)++List.replicate 2 (LN b))=LN b*LN b*LN a:=by show 1*LN a*LN b*LN b=_;exact ring [LN a,LN b]
   rw[e];exact this
 ·obtain rfl|rfl|rfl:j=0\/j=1\/j=2:=aw
  ·rw[List.replicate_zero,List.append_nil];exact tj ha hk fk 2 aw
  ·refine⟨[(LN b,1),(LN a,2)],?_⟩;have:=J7 ha hb hk fk hab;have e:pdl (List.replicate 2 (LN a)++List.replicate 1 (LN b))=LN a*LN a*LN b:=by show 1*LN a*LN a*LN b=_;rw[one_mul]
   rw[e];exact this
  ·refine⟨[(LN a*LN b,2)],?_⟩;have:=(J8 ha hb hk fk hab).2;have e:pdl (List.replicate 2 (LN a)++List.replicate 2 (LN b))=LN a*LN b*(LN a*LN b):=by show 1*LN a*LN a*LN b*LN b=_;exact ring [LN a,LN b]
   rw[e];exact this
end
theorem Ip:∀(L:List KP) (A:KP),lc A=1->(∀ x∈L,lc x=1)->lc (L.foldl (· * ·) A)=1
 | [],_,h,_=>h
 | x::L,A,h,hx=>Ip L (A*x) (lcm1 h (hx x (.head _))) fun y hy=>hx y (.tail _ hy)
theorem MC {α:Type} (a:α) (l m:List α):List.append (a::l) m=a::List.append l m:=(rfl)
theorem PD {α:Type} (m:List α):List.append [] m=m:=(rfl)
noncomputable abbrev LL (a b k:KQ) (i j:Nat):KP:=pdl (List.replicate i (LN a)++List.replicate j (LN b))*an k
section
variable {a b k:KQ} (ha:FB 8 a) (hb:FB 8 b) (fk:FB 8 k)
include ha hb fk
theorem LO {i j:Nat} (h:i+j<=4):PW 92 (LL a b k i j)/\aa (LL a b k i j)<=9:=by
 obtain⟨w,s⟩:=NA (List.replicate i (LN a)++List.replicate j (LN b)) ar (fun x hx=>by
  obtain hx|hx:=List.mem_append.1 hx
  ·rw[(List.mem_replicate.1 hx).2];exact⟨(jg ha).mono aw,by rw[cO];omega⟩
  ·rw[(List.mem_replicate.1 hx).2];exact⟨(jg hb).mono aw,by rw[cO];omega⟩)
 have hl:(List.replicate i (LN a)++List.replicate j (LN b)).length<=4:=by simp;omega
 have h1:=DC (pdl (List.replicate i (LN a)++List.replicate j (LN b))) (an k);have h2:=gN k;exact⟨(w.scale fk).mono aw,by show aa (pdl _*_)<=9;omega⟩
theorem ll_g {i j:Nat} (h:i+j<=3):Fn Tryz.prog 19 [ku (LL a b k i j),ku (LN b)] [ku (LL a b k i (j+1))]:=by
 obtain⟨w,s⟩:=LO ha hb fk (i:=i) (j:=j) aw;have e:LL a b k i (j+1)=LL a b k i j*LN b:=by
  rw[LL,List.replicate_succ',<-List.append_assoc,pW];exact ring [pdl (List.replicate i (LN a)++List.replicate j (LN b)),LN b,an k]
 rw[e];exact EO w (PC.pw (jg hb)) (by rw[cO];omega) (by rw[cO];omega)
theorem ll_f {i:Nat} (h:i<=3):Fn Tryz.prog 19 [ku (LL a b k i 0),ku (LN a)] [ku (LL a b k (i+1) 0)]:=by
 obtain⟨w,s⟩:=LO ha hb fk (i:=i) (j:=0) aw;have e:LL a b k (i+1) 0=LL a b k i 0*LN a:=by
  rw[LL,LL,List.replicate_zero,List.append_nil,List.append_nil,List.replicate_succ',pW];exact ring [pdl (List.replicate i (LN a)),LN a,an k]
 rw[e];exact EO w (PC.pw (jg ha)) (by rw[cO];omega) (by rw[cO];omega)
end
set_option maxHeartbeats 8000000 in
theorem tX (a b:pu) (x y z:Nat) (ha:a.ok) (hb:b.ok) (hx:x<256) (hy:y<256) (hz:z<256):Fn Tryz.prog 7 [.g a.row,.g b.row,.g [.v (.int .u8 (x:Int)),.v (.int .u8 (y:Int)),.v (.int .u8 (z:Int))]] [iB true]:=by
 have hs:=FN;have m1:=xa a.N a.D 1 aw ha.1.1 ha.1.2 ha.2.1 ha.2.2;have m2:=xa b.N b.D 1 aw hb.1.1 hb.1.2 hb.2.1 hb.2.2;have fa:FB 8 (mQ a.N a.D 1):=(DO ha.2.1 ha.2.2).mono aw;have fb:FB 8 (mQ b.N b.D 1):=(DO hb.2.1 hb.2.2).mono aw;generalize mQ a.N a.D 1=α at *
 generalize mQ b.N b.D 1=β at *
 clear ha hb;have g1:=qB fa aw;have g2:=qB fb aw;obtain⟨c,hc⟩:∃ c:Nat,c=1+z % 5:=⟨_,rfl⟩;have m3:Fn Tryz.prog 30 [iN (c:Int)] [iK (kn (c:Int))]:=mJ (c:Int) aw;have hk:(kn (c:Int):KQ)≠0:=wv aw;have fk:FB 8 (kn (c:Int)):=gG ar;have m4:=yB (kn (c:Int));have w5:IntKind.wrap .i64 ((z:Int).tmod 5)=((z % 5:Nat):Int):=by
  rw[Int.tmod_eq_emod_of_nonneg aw,jQ _ aw aw];omega
 have zc:(1:Int)+((z % 5:Nat):Int)=(c:Int):=aw;generalize kn (c:Int)=k at *
 obtain⟨i,hi⟩:∃ i:Nat,i=x % 3:=⟨_,rfl⟩;obtain⟨j,hj⟩:∃ j:Nat,j=y % 3:=⟨_,rfl⟩;have xi:(IntKind.wrap .i64 (x:Int)).tmod 3=(i:Int):=by
  rw[jQ _ aw aw,Int.tmod_eq_emod_of_nonneg aw];omega
 have yj:(IntKind.wrap .i64 (y:Int)).tmod 3=(j:Int):=by
  rw[jQ _ aw aw,Int.tmod_eq_emod_of_nonneg aw];omega
 obtain⟨l,hl⟩:=MU fa fb hk fk (i:=i) (j:=j) aw aw;have hf:∀ n,n<i->Fn Tryz.prog 19 [ku (LL α β k n 0),ku (LN α)] [ku (LL α β k (n+1) 0)]:=fun n hn=>ll_f fa fb fk aw;have hg:∀ n,n<j->Fn Tryz.prog 19 [ku (LL α β k i n),ku (LN β)] [ku (LL α β k i (n+1))]:=fun n hn=>ll_g fa fb fk aw;obtain⟨wp,sp⟩:=LO fa fb fk (i:=i) (j:=j) aw;have e00:LL α β k 0 0=an k:=one_mul _;refine aJ (fn:=Tryz.f7) ?_;simp -dsimp only[go_sem,pu.row];refine aK hs ?_;simp -dsimp only[go_sem];refine ap 8 [] false true ?_;simp -dsimp only[go_sem,pu.row];refine ao m1 rfl ?_;simp -dsimp only[go_sem];refine ao g1 rfl ?_;simp -dsimp only[go_sem,pu.row];refine ao m2 rfl ?_;simp -dsimp only[go_sem];refine ao g2 rfl ?_;simp -dsimp only[go_sem,Int.reduceToNat,Int.reduceLE,aC,w5,zc];refine⟨aH,aw,?_⟩;refine ao m3 rfl ?_;simp -dsimp only[go_sem];refine ao m4 rfl ?_;simp -dsimp only[go_sem];refine a8 [(10,11),(30,40)] [] [] (fun m τ β' ε=>∃ n:Nat,m=i-n/\n<=i/\τ 11 = .i (iN n)/\τ 10 = .i (ku (LL α β k n 0))) (fun e τ β' ε=>e = .exit 0/\τ 10 = .i (ku (LL α β k i 0))) i ?_ ?_ ?_
 ·refine⟨0,aw,aw,rfl,?_⟩;rw[e00];rfl
 ·rintro m τ β' ε π hK hKB hKE ⟨n,hm,hn,h11,h10⟩;have k5:τ 5 = .bp 5 1 0:=(hK 5 rfl).trans rfl;have k8:τ 8 = .i (ku (LN α)):=(hK 8 rfl).trans rfl;have b5:β' 5=⟨1,[.v (.int .u8 (x:Int)),.v (.int .u8 (y:Int)),.v (.int .u8 (z:Int))]⟩:=(hKB 5 rfl).trans rfl;by_cases hA:n<i
  ·have dA:decide ((n:Int)<(i:Int))=true:=aF aw;simp -dsimp only[go_sem,h11,h10,k5,k8,b5,xi,dA,Int.reduceToNat,Int.reduceLE,aC];refine⟨aH,?_⟩;refine ao (hf n hA) rfl ?_;simp -dsimp only[go_sem,h11]
   repeat(refine And.intro aw ?_)
   exact again (i-(n+1)) aw ⟨(aA hK),hKB,hKE,n+1,rfl,aw,rfl,rfl⟩
  ·have dA:decide ((n:Int)<(i:Int))=false:=aG aw;obtain rfl:n=i:=aw;simp -dsimp only[go_sem,h11,h10,k5,k8,b5,xi,dA,Int.reduceToNat,Int.reduceLE,aC];exact⟨aH,(aA hK),hKB,hKE⟩
 ·rintro e τ β' ε π hK hKB hKE ⟨rfl,h10⟩;have k5:τ 5 = .bp 5 1 0:=(hK 5 rfl).trans rfl;have k9:τ 9 = .i (ku (LN β)):=(hK 9 rfl).trans rfl;have k7:τ 7 = .i (iB true):=(hK 7 rfl).trans rfl;have b5:β' 5=⟨1,[.v (.int .u8 (x:Int)),.v (.int .u8 (y:Int)),.v (.int .u8 (z:Int))]⟩:=(hKB 5 rfl).trans rfl;clear hK hKB hKE;simp -dsimp only[go_sem,h10];refine a8 [(10,10),(12,12),(41,51)] [] [] (fun m τ β' ε=>∃ n:Nat,m=j-n/\n<=j/\τ 12 = .i (iN n)/\τ 10 = .i (ku (LL α β k i n))) (fun e τ β' ε=>e = .exit 2/\τ 10 = .i (ku (LL α β k i j))) j ?_ ?_ ?_
  ·exact⟨0,aw,aw,rfl,by simp -dsimp only[go_sem,h10]⟩
  ·rintro m τ2 β2 ε2 π2 hK hKB hKE ⟨n,hm,hn,h12,h10'⟩;have j5:τ2 5 = .bp 5 1 0:=(hK 5 rfl).trans k5;have j9:τ2 9 = .i (ku (LN β)):=(hK 9 rfl).trans k9;have c5:β2 5=⟨1,[.v (.int .u8 (x:Int)),.v (.int .u8 (y:Int)),.v (.int .u8 (z:Int))]⟩:=(hKB 5 rfl).trans b5;by_cases hA:n<j
   ·have dA:decide ((n:Int)<(j:Int))=true:=aF aw;simp -dsimp only[go_sem,h12,h10',j5,j9,c5,yj,dA,Int.reduceToNat,Int.reduceLE,aC];refine⟨aH,?_⟩;refine ao (hg n hA) rfl ?_;simp -dsimp only[go_sem,h12]
    repeat(refine And.intro aw ?_)
    exact again (j-(n+1)) aw ⟨(aA hK),hKB,hKE,n+1,rfl,aw,rfl,rfl⟩
   ·have dA:decide ((n:Int)<(j:Int))=false:=aG aw;obtain rfl:n=j:=aw;simp -dsimp only[go_sem,h12,h10',j5,j9,c5,yj,dA,Int.reduceToNat,Int.reduceLE,aC];exact⟨aH,(aA hK),hKB,hKE⟩
  ·rintro e τ2 β2 ε2 π2 hK hKB hKE ⟨rfl,h10'⟩;have j7:τ2 7 = .i (iB true):=(hK 7 rfl).trans k7;clear hK hKB hKE k5 k9 k7 b5 h10 hf hg m1 m2 m3 m4 hs g1 g2 τ β' ε π;obtain⟨q1,q2,q3,q4,q5,q6,q7,q8⟩:=hl;simp -dsimp only[go_sem,h10'];refine ao q1 rfl ?_;simp -dsimp only[go_sem,h10'];refine a8 [(6,6),(14,15),(54,149)] [] [] (fun m τ β' ε=>∃ n:Nat,m=l.length-n/\n<=l.length/\τ 14 = .i (iN n)) (fun e τ β' ε=>e = .exit 4) l.length ?_ ?_ ?_
   ·exact⟨0,aw,aw,rfl⟩
   ·rintro m τ β' ε π hK hKB hKE ⟨n,hm,hn,h14⟩;have k13:τ 13 = .i (.c (.lst (l.map sqr))):=(hK 13 rfl).trans rfl;by_cases hA:n<l.length
    ·have dA:decide ((n:Int)<(l.length:Int))=true:=aF aw;have gl:l[n]?=some l[n]:=by simp[hA]
     obtain⟨⟨s1,s2⟩,⟨n1,n4⟩,hm1,hp,hG⟩:=q3 n hA;have hinc:=q4 (n-1);have hcop:=fun jj=>q5 n jj hA;have wl:=PC.pw hp;have c1:=tr wl aw aw;rw[hm1]at c1;have c2:=gC wl aw aw;have c3:=PV wl aw aw;have d1:decide ((aa l[n].1:Int)<2)=false:=aG aw;have d2:decide ((l[n].2:Int)<1)=false:=aG aw;have d3:decide ((4:Int)<(l[n].2:Int))=false:=aG aw;have d5:decide ((aa (1:KP):Int)=1)=true:=aF (by rw[cY];rfl);simp -dsimp only[go_sem,h14,k13,dA,az];refine ap 72 [] false true ?_;simp -dsimp only[go_sem,h14,k13,dZ,MC,PD];refine aP gl ?_;simp -dsimp only[go_sem,h14,k13,dZ,az,aZ,d1];refine aP gl ?_;simp -dsimp only[go_sem,h14,k13,dZ,d2];refine aP gl ?_;simp -dsimp only[go_sem,h14,k13,dZ,d3];by_cases hpos:0<n
     case' pos =>
      have d4:decide ((0:Int)<(n:Int))=true:=aF aw;have gl1:l[n-1]?=some l[n-1]:=au;have el:(n:Int)-1=((n-1:Nat):Int):=aw;have hi:=hinc aw;have d6:decide ((l[n].2:Int)<=(l[n-1].2:Int))=false:=aG (by
       have:l[n-1+1]=l[n]:=by congr 1;omega
       rw[this]at hi;omega)
      simp -dsimp only[go_sem,h14,k13,dZ,d4,el]
      repeat(refine And.intro aw ?_)
      refine aP gl1 ?_;simp -dsimp only[go_sem,h14,k13,dZ];refine aP gl ?_;simp -dsimp only[go_sem,h14,k13,dZ,d6]
     case' neg =>
      have d4:decide ((0:Int)<(n:Int))=false:=aG aw;simp -dsimp only[go_sem,h14,k13,dZ,d4]
     all_goals
      refine aP gl ?_;simp -dsimp only[go_sem,h14,k13,dZ];refine aP gl ?_;simp -dsimp only[go_sem,h14,k13,dZ];refine ao c1 rfl ?_;simp -dsimp only[go_sem];refine ao c2 rfl ?_;simp -dsimp only[go_sem,h14,k13,dZ];refine aP gl ?_;simp -dsimp only[go_sem,h14,k13,dZ];refine aP gl ?_;simp -dsimp only[go_sem,h14,k13,dZ];refine ao c3 rfl ?_;simp -dsimp only[go_sem];refine ao hG rfl ?_;simp -dsimp only[go_sem,az,aZ,d5];refine a8 [(6,6),(15,15),(132,149)] [] [] (fun m τ β' ε=>∃ i:Nat,m=n-i/\i<=n/\τ 15 = .i (iN i)) (fun e τ β' ε=>e = .exit 6) n ?_ ?_ ?_
      ·exact⟨0,aw,aw,rfl⟩
      ·rintro m τ3 β3 ε3 π3 hK3 hKB3 hKE3 ⟨i,hm3,hi3,h15⟩;have j13:τ3 13 = .i (.c (.lst (l.map sqr))):=(hK3 13 rfl).trans (by simp -dsimp only[go_sem,k13]);have j14:τ3 14 = .i (iN n):=(hK3 14 rfl).trans (by simp -dsimp only[go_sem,h14]);by_cases hB:i<n
       ·have dB:decide ((i:Int)<(n:Int))=true:=aF aw;have gi:l[i]?=some l[i]:=aD aw;have c4:=hcop i hB;simp -dsimp only[go_sem,h15,j13,j14,dB];refine ap 13 [] false true ?_;simp -dsimp only[go_sem,h15,j13,j14,dZ];refine aP gl ?_;simp -dsimp only[go_sem,h15,j13,j14,dZ];refine aP gi ?_;simp -dsimp only[go_sem,h15,j13,j14,dZ];refine ao c4 rfl ?_;simp -dsimp only[go_sem,h15,az,aZ,d5]
        repeat(refine And.intro aw ?_)
        exact again (n-(i+1)) aw ⟨(aA hK3),hKB3,hKE3,i+1,rfl,aw,rfl⟩
       ·have dB:decide ((i:Int)<(n:Int))=false:=aG aw;simp -dsimp only[go_sem,h15,j13,j14,dB];exact⟨(aA hK3),hKB3,hKE3⟩
      ·rintro e τ3 β3 ε3 π3 hK3 hKB3 hKE3 rfl;have j14:τ3 14 = .i (iN n):=(hK3 14 rfl).trans (by simp -dsimp only[go_sem,h14]);have kO:=Kp.step2 hK hK3 (by intro n;simp[inR]<;>omega) (aA hK);have kB:=Kp.step2 hKB hKB3 (by intro n;simp[inR]) hKB;have kE:=Kp.step2 hKE hKE3 (by intro n;simp[inR]) hKE;simp -dsimp only[go_sem,j14]
       repeat(refine And.intro aw ?_)
       exact again (l.length-(n+1)) aw ⟨(aA kO),kB,kE,n+1,rfl,aw,rfl⟩
    ·have dA:decide ((n:Int)<(l.length:Int))=false:=aG aw;simp -dsimp only[go_sem,h14,k13,dA,az];exact⟨(aA hK),hKB,hKE⟩
   ·rintro e τ β' ε π hK hKB hKE rfl;have k13:τ 13 = .i (.c (.lst (l.map sqr))):=(hK 13 rfl).trans rfl;have k10:τ 10 = .i (ku (LL α β k i j)):=(hK 10 rfl).trans h10';have k7:τ 7 = .i (iB true):=(hK 7 rfl).trans j7;clear hK hKB hKE;have c1:Fn Tryz.prog 31 [ku 0] [.c (.lst [])]:=qL (by rw[aM.2 rfl];omega);have c2:=PS (l:=l) aw q7 (fun x hx=>by
     obtain⟨n,hn,rfl⟩:=List.getElem_of_mem hx;obtain⟨⟨s1,s2⟩,-,-,hp,-⟩:=q3 n hn;exact⟨hp,s2⟩)
    rw[q6]at c2;have c3:=tr wp aw aw;have lF:lc (pdl (List.replicate i (LN α)++List.replicate j (LN β)))=1:=Ip _ 1 (by rw[<-bP,mV]) (fun x hx=>by
     obtain hx|hx:=List.mem_append.1 hx
     ·rw[(List.mem_replicate.1 hx).2];exact jo α
     ·rw[(List.mem_replicate.1 hx).2];exact jo β)
    rw[sh hk lF]at c3;obtain⟨wF,sF⟩:=LO fa fb ((gG (z:=1) (w:=8) aH)) (i:=i) (j:=j) aw;rw[LL,d7,bP,mul_one]at wF sF;have c4:=gC wF aw aw;have dp:decide ((1:Int)<(aa (LL α β k i j):Int))=decide ((0:Int)<(l.length:Int)):=by
     rw[decide_eq_decide];have q9:(1<aa (LL α β k i j))↔(0<l.length):=q8;omega
    simp -dsimp only[go_sem];refine aQ (args':=[ku 0]) (by rw[fF];rfl) c1 ?_;have d0:decide (((0:Nat):Int)=0)=true:=rfl;simp -dsimp only[go_sem,k10,k13,az,aZ,dp,beq_self_eq_true,List.length_nil,d0];refine ao c2 rfl ?_;simp -dsimp only[go_sem,k10];refine ao c3 rfl ?_;simp -dsimp only[go_sem];refine ao c4 rfl ?_;simp -dsimp only[go_sem,k7]
end Go.AM
namespace Go.AM
open Go.Deep
section
variable {H:Type} {enc:TypeId×Value->H} {P:Program} {w:World} {base:Nat} {spare:Nat->Bool} {held:Bool}
abbrev nob:Nat->Prop:=fun _=>False
theorem JY {a:Addr} (h:a.spot=none) (n:Nat):a.add n=⟨a.block,a.off+n,none⟩:=by
 obtain⟨b,o,s⟩:=a;subst h;unfold Addr.add;by_cases hn:n=0
 ·subst hn;rfl
 ·simp[hn]
theorem FL {a:Addr} {v:Value} (h:w.cell? a=some v):a.spot=none/\a.block<w.heap.size:=by
 unfold World.cell? at h;split at h
 ·rename_i hb;refine⟨?_,(Array.getElem?_eq_some_iff.1 hb).1⟩;cases hs:a.spot with
  | none=>rfl
  | some _=>simp[hs]at h
 ·simp at h
theorem zB {α:Type} [Inhabited α] {t e:TypeId} {fuel:Nat} {cs:List Value} {x:DataW H×List MemPlace} (F:α->List C) (ok:α->Prop) {n:Nat} (hn:0<n) (ht:P.underlying t=some (.slice e)) (hc:P.cellsOf e=n)
  (he:∀ fuel cs x,DataW.trod enc P w base spare held fuel e cs=some x->cs.length=n->∃ r:α,ok r/\(F r).length=n/\aY w nob (F r) cs)
  (h:DataW.trod enc P w base spare held fuel t cs=some x):∃ l:List α,(∀ r∈l,ok r)/\l.length<=maxLen/\∃ y,cs=[y]/\cw w nob (.lst (l.map F)) y:=by
 rcases open_slice ht h with⟨rfl,_⟩|⟨a,len,cap,m,k,D,Pl,rfl,hb,hl,hcap,hm,_,hx⟩
 ·refine⟨[],au,au,_,rfl,?_⟩;simp only[List.map_nil,cw];exact⟨none,0,0,rfl,rfl,ay _,.inl trivial⟩
 rw[hc]at hx;have hlm:len<=m:=by rw[hm];split<;>omega
 obtain⟨f,hf⟩:=choose_lt (α:=α) (n:=len) (p:=fun i r=>ok r/\(F r).length=n/\∃ cs',w.cells? base (a.add (i*n)) n=some cs'/\aY w nob (F r) cs') (fun i hi=>by
  obtain⟨cs',h1,h2⟩:=hx i aw;obtain⟨r,h3,h4,h5⟩:=he _ _ _ h2 (World.cells?_some h1).2.1;exact⟨r,h3,h4,cs',h1,h5⟩)
 refine⟨(List.range len).map f,fun r hr=>?_,ar,_,rfl,?_⟩
 ·obtain⟨i,hi,rfl⟩:=List.mem_map.1 hr;exact(hf i (List.mem_range.1 hi)).1
 simp only[cw];refine⟨some a,len,cap,rfl,au,hl,?_⟩;by_cases h0:len=0
 ·subst h0;exact .inl rfl
 ·right;have hs:a.spot=none/\a.block<w.heap.size:=by
   obtain⟨_,h2,cs',h1,_⟩:=hf 0 aw;obtain⟨_,h4,h5⟩:=World.cells?_some h1;have h6:=h5 0 hn;rw[aD aw]at h6;simp only[Nat.zero_mul,Addr.add,if_true]at h6;exact FL h6
  refine⟨a.block,a.off,n,?_,hs.2,id,aS.of_get fun i r hi=>?_⟩
  ·obtain⟨b,o,s⟩:=a;obtain⟨rfl,_⟩:=hs;rfl
  ·rw[List.map_map,List.getElem?_map]at hi;by_cases hil:i<len
   ·rw[List.getElem?_range hil]at hi;simp only[Option.map_some,Option.some.injEq,Function.comp]at hi;subst hi;obtain⟨_,h2,cs',h1,h3⟩:=hf i hil;obtain⟨_,h4,h5⟩:=World.cells?_some h1;refine⟨h2,br.of_reps h3 fun j hj=>?_⟩;rw[<-h5 j aw,add_add,JY hs.1,Nat.add_assoc]
   ·rw[List.getElem?_eq_none ar]at hi;simp at hi
theorem aY.split {w:World} {M:Nat->Prop} {cs:List C} {ys:List Value} (n:Nat) {bs:List C} (h1:aY w M bs (ys.take n)) (h2:aY w M cs (ys.drop n)):aY w M (bs++cs) ys:=by
 have:=h1.append h2;rwa [List.take_append_drop]at this
end
theorem Ca {H:Type} {enc:TypeId×Value->H} {P:Program} {f:Func} {s:ChangeSpec} {fresh handsOn:Bool} {W W':World} {args:Array Value} {ds:List (DataW H)} {before:List MemPlace} {t:TypeId} (hl:laidOutB P=true)
  (hW:DataW.Whole enc P f.params.toList s.vars false W args.toList ds [] before) (hv:s.vars=[]) (hrt:f.resultTypes = #[t]) (ht:P.underlying t=some .bool) (hres:(s.fn H (ds++[])).results=[.lit (.bool true)])
  (hargs:(s.fn H (ds++[])).args=ds) (hvars:(s.fn H (ds++[])).vars=[]) (hrd:∀ t∈f.params.toList,P.readableRec t=true/\t<P.types.size) (hb:bq W.heap.size W W') :
  s.post enc P f false fresh handsOn false W args (.bool true) W':=by
 have hB:Go.RowKit.Below W.heap.size W W':=⟨hb.os,hb.tape,hb.output,hb.size,hb.block⟩;have hlt:=hW.lt;have hW':=hW;obtain⟨p,q,hA,hV,rfl,-,-⟩:=hW;refine⟨ds,[],_,[],p,[],hW',?_,?_,?_,hB.frame _,fun h=>by cases h⟩
 ·rw[hres,hrt];exact Go.ChangeShapes.trodAll_mk1 (Go.RowKit.shut_bool ht true)
 ·rw[hargs];have key:∀(ts:List TypeId) (vs:List Value) (ds:List (DataW H)) (ps:List MemPlace),(∀ t∈ts,P.readableRec t=true/\t<P.types.size)->(∀ x∈ps,x.block<W.heap.size)->DataW.TrodAll enc P W 0 (fun _=>true) true ts vs ds ps ->
    DataW.TrodAll enc P W' 0 (fun b=>decide (b<W.heap.size)) true ts vs ds ps:=by
   intro ts
   induction ts with
   | nil=>intro vs ds ps _ _ h;cases vs<;>cases ds<;>first|exact h|exact h.elim
   | cons t ts ih =>
    intro vs ds ps hr hx h;cases vs with
    | nil=>exact h.elim
    | cons v vs =>
     cases ds with
     | nil=>exact h.elim
     | cons d ds =>
      obtain⟨p,q,h1,h2,rfl⟩:=h;have hrt:=hr t au;exact⟨p,q,Go.RowKit.Below.trod hl hrt.1 hrt.2 h1 hB (fun x hx'=>hx x (by simp[hx'])),ih vs ds q (fun t ht=>hr t (by simp[ht])) (fun x hx'=>hx x (by simp[hx'])) h2,rfl⟩
  exact key _ _ _ _ hrd (fun x hx=>hlt x (by simp[hx])) hA
 ·rw[hvars,hv];rfl
end Go.AM
namespace Go.AM
open Go.Proofs
open Go.Deep Go.ChangeShapes Go.WideShapes Go.ChangeAt Go.RowKit
section
variable {H:Type} {enc:TypeId×Value->H} {w:World} {base:Nat} {spare:Nat->Bool} {held:Bool}
theorem Q8 {cs:List Value} (h:cs.length=5):∃ c0 c1 c2 c3 c4,cs=[c0,c1,c2,c3,c4]:=by
 match cs,h with
 | [c0,c1,c2,c3,c4],_=>exact⟨c0,c1,c2,c3,c4,rfl⟩
theorem twoV {cs:List Value} (h:cs.length=2):∃ c0 c1,cs=[c0,c1]:=by
 match cs,h with
 | [c0,c1],_=>exact⟨c0,c1,rfl⟩
instance:Inhabited T5:=⟨⟨0,0,0,0,0⟩⟩
instance:Inhabited pu:=⟨⟨[],[]⟩⟩
theorem cells124:Tryz.prog.cellsOf 124=5:=by kernel_rfl
theorem cells97:Tryz.prog.cellsOf 97=1:=by kernel_rfl
theorem cells37:Tryz.prog.cellsOf 37=1:=by kernel_rfl
theorem cells39:Tryz.prog.cellsOf 39=2:=by kernel_rfl
theorem Nt {n:Int} (h:(Lit.int .i8 n).wf=true) : -128<=n/\n<128:=by
 have:=bounds_i8 h;omega
theorem rep5 {fuel:Nat} {cs:List Value} {x:DataW H×List MemPlace} (h:DataW.trod enc Tryz.prog w base spare held fuel 124 cs=some x):∃ t:T5,t.ok/\t.row.length=5/\aY w nob t.row cs:=by
 obtain⟨xs,m,-,-,hl,hx,he⟩:=DataW.trod_array Tryz.underlying124 h;rw[cells124]at hl;obtain⟨c0,c1,c2,c3,c4,rfl⟩:=Q8 hl
 ·have key:∀ i,i<5->∃ n,(([c0,c1,c2,c3,c4]:List Value).drop (i*1)).take 1=[.int .i8 n]/\(Lit.int .i8 n).wf=true:=fun i hi=>by
   have h1:=he i hi;rw[aD aw,show Tryz.prog.cellsOf 97=1 from cells97]at h1;obtain⟨n,h2,_,h3⟩:=DataW.trod_int Tryz.underlying97 h1;exact⟨n,h2,h3⟩
  obtain⟨a,ha,wa⟩:=key 0 aw;obtain⟨b,hb,wb⟩:=key 1 aw;obtain⟨c,hc,wc⟩:=key 2 aw;obtain⟨d,hd,wd⟩:=key 3 aw;obtain⟨e,he5,we⟩:=key 4 aw;simp only[Nat.zero_mul,Nat.one_mul,Nat.reduceMul,aC,List.take_succ_cons,List.take_zero,List.cons.injEq,and_true]at ha hb hc hd he5;subst ha hb hc hd he5;refine⟨⟨a,b,c,d,e⟩,⟨Nt wa,Nt we⟩,rfl,?_⟩;simp only[T5.row,aY,cw,Value.oneCell',and_self]
theorem repR {fuel:Nat} {cs:List Value} {x:DataW H×List MemPlace} (h:DataW.trod enc Tryz.prog w base spare held fuel 39 cs=some x):∃ t:pu,t.ok/\t.row.length=2/\aY w nob t.row cs:=by
 obtain⟨y0,y1,n,-,hl,h0,h1⟩:=trod_struct2 Tryz.underlying39 h;rw[cells39]at hl;obtain⟨c0,c1,rfl⟩:=twoV hl
 ·simp only[cells37,aC,List.take_succ_cons,List.take_zero]at h0 h1;obtain⟨l0,k0,b0,v0,e0,r0⟩:=zB T5.row T5.ok aH Tryz.underlying37 cells124 (fun f cs x h _=>rep5 h) h0;obtain⟨l1,k1,b1,v1,e1,r1⟩:=zB T5.row T5.ok aH Tryz.underlying37 cells124 (fun f cs x h _=>rep5 h) h1;simp only[List.cons.injEq,and_true]at e0 e1;subst e0 e1;exact⟨⟨l0,l1⟩,⟨⟨b0,b1⟩,k0,k1⟩,rfl,r0,r1,trivial⟩
end
theorem own:ownKnob Tryz.prog.godebug=none:=by kernel_rfl
theorem LW:laidOutB Tryz.prog=true:=by kernel_rfl
abbrev iT:IV := .c (.v (.bool true))
set_option maxRecDepth 100000 in
theorem IY {f:FuncId} {fn:Func} {s:ChangeSpec} (hv:s.vars=[]) (hrt:fn.resultTypes = #[4]) (hrd:∀ t∈fn.params.toList,Tryz.prog.readableRec t=true/\t<Tryz.prog.types.size) {H:Type} {enc:TypeId×Value->H}
  (hc:∀(W:World) (base:Nat) (args:Array Value) (ds:List (DataW H)) (p:List MemPlace),(∀(j:Nat) t v,fn.params[j]?=some t->args[j]?=some v->Value.okWide Tryz.prog W .any base t v)->DataW.TrodAll enc Tryz.prog W 0 (fun _=>true) true fn.params.toList args.toList ds p ->
   (∃ ivs,Fn Tryz.prog f ivs [iT]/\cV W nob ivs args.toList)/\(s.fn H (ds++[])).results=[.lit (.bool true)]/\(s.fn H (ds++[])).args=ds/\(s.fn H (ds++[])).vars=[])
  (W:World) (base:Nat) (args:Array Value) (ds gs:List (DataW H)) (before:List MemPlace) (hval:∀(j:Nat) t v,fn.params[j]?=some t->args[j]?=some v->Value.okWide Tryz.prog W .any base t v)
  (hW:DataW.Whole enc Tryz.prog fn.params.toList s.vars false W args.toList ds gs before):Calls Tryz.prog f args W fun e W'=>∃ v,e = .returned v/\s.post enc Tryz.prog fn false true false false W args v W':=by
 have hW':=hW;obtain⟨p,q,hA,hV,rfl,-,-⟩:=hW;rw[hv]at hV;obtain⟨rfl,rfl⟩:=trodVars_none hV;obtain⟨⟨ivs,hf,hr⟩,h1,h2,h3⟩:=hc W base args ds p hval hA;have hcall:=hf.2 W nob args.toList (fun _ h=>h.elim) hr;rw[Array.toArray_toList]at hcall;refine hcall.mono ?_;rintro e W' ⟨y,rfl,hy,hB⟩;obtain⟨rfl,_⟩:y = .bool true/\_:=by simpa only[yw,jc,cw]using hy
 exact⟨_,rfl,Ca LW hW' hv hrt Tryz.underlying4 h1 h2 h3 hrd hB⟩
end Go.AM
namespace Go.AM
open Go.Proofs Go.Deep Go.ChangeShapes Go.WideShapes Go.ChangeAt Go.RowKit
set_option maxRecDepth 100000 in
theorem QD {H:Type} {enc:TypeId×Value->H} {w:World} {r:Reach} {b0 base:Nat} {spare:Nat->Bool} {held:Bool} {v:Value} {d:DataW H} {ps:List MemPlace} (hv:Value.okWide Tryz.prog w r b0 39 v) (h:DataW.Trod enc Tryz.prog w base spare held 39 v d ps) :
  ∃ x:pu,x.ok/\jc w nob (.g x.row) v:=by
 obtain⟨cs,rfl,-⟩:=okWide_struct Tryz.underlying39 hv;obtain⟨fuel,hf⟩:=h;obtain⟨x,hx,-,hr⟩:=repR hf;exact⟨x,hx,cs,rfl,hr⟩
theorem rd39:Tryz.prog.readableRec 39=true/\39<Tryz.prog.types.size:=⟨by kernel_rfl,of_decide_eq_true (by kernel_rfl)⟩
theorem Cf {P:Program} {w:World} {r:Reach} {base:Nat} {t e:TypeId} {n:Nat} {v:Value} (ht:P.underlying t=some (.array n e)) (h:Value.okWide P w r base t v):∃ cs,v = .agg cs/\cs.size=P.cellsOf t:=by
 simp only[Value.okWide,ht]at h;obtain⟨cs,h1,h2,_⟩:=h;exact⟨cs,h1,h2⟩
theorem cells48:Tryz.prog.cellsOf 48=3:=by kernel_rfl
theorem cells5:Tryz.prog.cellsOf 5=1:=by kernel_rfl
theorem P8 {n:Int} (h:(Lit.int .u8 n).wf=true):∃ k:Nat,n=(k:Int)/\k<256:=by
 have:=bounds_u8 h;exact⟨n.toNat,aw,aw⟩
abbrev by3 (x y z:Nat):List C:=[.v (.int .u8 (x:Int)),.v (.int .u8 (y:Int)),.v (.int .u8 (z:Int))]
set_option maxRecDepth 100000 in
theorem repW {H:Type} {enc:TypeId×Value->H} {w:World} {r:Reach} {b0 base:Nat} {spare:Nat->Bool} {held:Bool} {v:Value} {d:DataW H} {ps:List MemPlace} (hv:Value.okWide Tryz.prog w r b0 48 v) (h:DataW.Trod enc Tryz.prog w base spare held 48 v d ps) :
  ∃ x y z:Nat,(x<256/\y<256/\z<256)/\jc w nob (.g (by3 x y z)) v:=by
 obtain⟨cs,rfl,hsz⟩:=Cf Tryz.underlying48 hv;obtain⟨fuel,hf⟩:=h;obtain⟨xs,m,-,-,hl,hx,he⟩:=DataW.trod_array Tryz.underlying48 hf;have key:∀ i,i<3->∃ k:Nat,k<256/\((Value.agg cs).cells.toList.drop (i*1)).take 1=[.int .u8 (k:Int)]:=fun i hi=>by
  have h1:=he i hi;rw[aD aw,show Tryz.prog.cellsOf 5=1 from cells5]at h1;obtain⟨n,h2,_,h3⟩:=DataW.trod_int Tryz.underlying5 h1;obtain⟨k,rfl,hk⟩:=P8 h3;exact⟨k,hk,h2⟩
 obtain⟨x,hx1,rx⟩:=key 0 aw;obtain⟨y,hy1,ry⟩:=key 1 aw;obtain⟨z,hz1,rz⟩:=key 2 aw;refine⟨x,y,z,⟨hx1,hy1,hz1⟩,cs,rfl,?_⟩;have hlen:cs.toList.length=3:=by rw[<-cells48,<-hsz];simp
 have e:cs.toList=(cs.toList.drop 0).take 1++((cs.toList.drop 1).take 1++(cs.toList.drop 2).take 1):=by
  match cs.toList,hlen with
  | [_,_,_],_=>rfl
 have rx':(cs.toList.drop 0).take 1=[.int .u8 (x:Int)]:=rx;have ry':(cs.toList.drop 1).take 1=[.int .u8 (y:Int)]:=ry;have rz':(cs.toList.drop 2).take 1=[.int .u8 (z:Int)]:=rz;rw[e,rx',ry',rz'];simp only[by3,aY,cw,Value.oneCell',List.cons_append,List.nil_append,and_self]
theorem rd48:Tryz.prog.readableRec 48=true/\48<Tryz.prog.types.size:=⟨by kernel_rfl,of_decide_eq_true (by kernel_rfl)⟩
end Go.AM
