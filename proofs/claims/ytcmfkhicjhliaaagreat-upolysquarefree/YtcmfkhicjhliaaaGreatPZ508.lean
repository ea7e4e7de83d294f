/- Lemmas, part 9 of 23. No condition. -/
import Derived.Test.YtcmfkhicjhliaaaGreatPZ507
set_option maxRecDepth 65536
set_option linter.unusedSimpArgs false
set_option linter.unusedVariables false
set_option linter.unusedSectionVars false
namespace Go.AM
open Go.Proofs
theorem Ea {α:Type} {A:List (Nat×Nat)} {f g:Nat->α} {d:Nat} {v:α} (h:inR A d=true) (k:Kp A f g):Kp A f (upd g d v):=by rw[uC _ _ _ _ _ h];exact k
theorem aA {α:Type} {A:List (Nat×Nat)} {f g h:Nat->α} (k:Kp A f g) (e:Kp A f g->Kp A f h:=by intro k;(repeat apply Ea rfl);exact k ):Kp A f h:=e k
theorem BD (P:Program) (T:TypeId) (x y:Operand) (k':IntKind) (a:Int) (K:Value->Prop):fp P .shr T x y (.int .u64 a) (.int k' 63) K=K (.int .u64 (a/9223372036854775808)):=by
 have e1:(min (63:Int).toNat (IntKind.bits .u64))=63:=aH;have e2:a.fdiv (2 ^ 63)=a/9223372036854775808:=by rw[Int.fdiv_eq_ediv_of_nonneg _ aH];rfl
 rw[lg,e1,e2];simp
attribute [go_sem ↓ 10000] BD
theorem JM {a b:Nat} (h:b<=a):((a:Int)-(b:Int))=((a-b:Nat):Int):=aw
theorem Fz {M:List Int} {n:Nat} (hn:2<=n) (h:n<M.length) (hz:val (M.drop (n+1))=0) :
  val M=((M[n]*4294967296+M[n-1])*4294967296+M[n-2])*4294967296 ^ (n-2)+val (M.take (n-2)):=by
 have h1:=fO (l:=M) (i:=n-2) aw;have h2:=cd (l:=M) (i:=n-1) aw;have h3:=cd (l:=M) (i:=n) h;simp only[show n-1+1=n from by omega,show n-2+1=n-1 from by omega]at h1 h2;rw[h1,h2,h3,hz]
 grind
theorem K7 {v:List Int} {n:Nat} (hn:2<=n) (h:v.length=n):val v=(v[n-1]*4294967296+v[n-2])*4294967296 ^ (n-2)+val (v.take (n-2)):=by
 have h1:=fO (l:=v) (i:=n-2) aw;have h2:=cd (l:=v) (i:=n-1) aw;simp only[show n-1+1=n from by omega,show n-2+1=n-1 from by omega]at h1 h2;rw[h1,h2,show v.drop n=[]from List.drop_of_length_le aw];simp only[val]
 grind
theorem ar_q (q v1 v2 p t:Int):q*((v1*4294967296+v2)*p+t)=q*v1*(4294967296*p)+q*(v2*p+t):=by grind
theorem Ro (t x p:Int):(t*4294967296+x)*p+p=t*(4294967296*p)+(x+1)*p:=by grind
theorem Pw {M U p r c bo bo' g t v x cl ch:Int} (h:M-p*r*(c+bo)=U-p*(g*t)) (hc:cl+4294967296*ch=c+g*v) :
  M+p*r*(x-cl-bo+4294967296*bo'-x)-p*(r*4294967296)*(ch+bo')=U-p*(g*(t+r*v)):=by grind
theorem Mz {A U p q r V:Int} (h:A=p*4294967296*(r*V)+U):A=p*((q+4294967296*r)*V)+(U-p*(q*V)):=by grind
theorem Px {M U p r c bo x g V:Int} (h:M-p*r*(c+bo)=U-p*(g*V)):M+p*r*(x-c-bo-x)=U-p*(g*V):=by grind
theorem Py {M U p r c bo x g V:Int} (h:M-p*r*(c+bo)=U-p*(g*V)):M+p*r*(x-c-bo+4294967296-x)=U-p*(g*V)+p*(r*4294967296):=by grind
theorem PB {L M p r c x v u w t:Int} (h:L+p*r*c=M+p*t) (e:u+4294967296*w=x+v+c):L+p*r*(u-x)+p*(r*4294967296)*w=M+p*(t+r*v):=by grind
theorem PA {L M U p r c t1 s ov g V:Int} (h:L+p*r*c=M+p*V) (hM:M=U-p*((g+1)*V)+p*(r*4294967296)) (e:s+4294967296*ov=t1+c) :
  L+p*r*(s-t1)=U-p*(g*V)+p*(r*4294967296)*(1-ov):=by grind
theorem xq {x y:Int} {k:Nat} (hk:k<32) (hx:0<=x/\x<4294967296) (hy:0<=y/\y<4294967296) :
  0<=((bw (x/2 ^ k) ||| bw (y*4294967296/2 ^ k % 4294967296)).toNat:Int)/\((bw (x/2 ^ k) ||| bw (y*4294967296/2 ^ k % 4294967296)).toNat:Int)<4294967296 /\
   ((bw (x/2 ^ k) ||| bw (y*4294967296/2 ^ k % 4294967296)).toNat:Int)*2 ^ k=x-x % 2 ^ k+4294967296*(y % 2 ^ k):=by
 obtain⟨n,rfl⟩:=Int.eq_ofNat_of_zero_le hx.1;obtain⟨m,rfl⟩:=Int.eq_ofNat_of_zero_le hy.1;have hp:0<2 ^ k:=Nat.pow_pos aH;have e0:(4294967296:Nat)=2 ^ (32-k)*2 ^ k:=by rw[<-Nat.pow_add];rw[show 32-k+k=32 from by omega]
 have e1:m*4294967296/2 ^ k=m*2 ^ (32-k):=by rw[e0,<-Nat.mul_assoc,Nat.mul_div_cancel _ hp]
 have e2:m*2 ^ (32-k) % 4294967296=m % 2 ^ k*2 ^ (32-k):=by rw[e0,Nat.mul_comm (2 ^ (32-k)),Nat.mul_mod_mul_right]
 have f1:((n:Int)/2 ^ k)=((n/2 ^ k:Nat):Int):=au;have f2:((m:Int)*4294967296/2 ^ k % 4294967296)=((m % 2 ^ k*2 ^ (32-k):Nat):Int):=by rw[<-e2,<-e1];simp
 have h1:n/2 ^ k<2 ^ (32-k):=by rw[Nat.div_lt_iff_lt_mul hp,<-e0];omega
 have h2:(m % 2 ^ k+1)*2 ^ (32-k)<=2 ^ k*2 ^ (32-k):=Nat.mul_le_mul_right _ (Nat.mod_lt _ hp);rw[Nat.add_mul,Nat.mul_comm (2 ^ k)]at h2;have h3:m % 2 ^ k*2 ^ (32-k)+n/2 ^ k<4294967296:=aw;rw[f1,f2,zL h1 h3];refine⟨Int.natCast_nonneg _,by generalize m % 2 ^ k*2 ^ (32-k)+n/2 ^ k=z at *;omega,?_⟩
 have h4:(m % 2 ^ k*2 ^ (32-k)+n/2 ^ k)*2 ^ k+n % 2 ^ k=n+4294967296*(m % 2 ^ k):=by
  have:=Nat.mod_add_div n (2 ^ k);rw[Nat.add_mul,Nat.mul_assoc,<-e0,Nat.mul_comm (n/2 ^ k),Nat.mul_comm (m % 2 ^ k)];omega
 have h5:(((m % 2 ^ k*2 ^ (32-k)+n/2 ^ k)*2 ^ k+n % 2 ^ k:Nat):Int)=((n+4294967296*(m % 2 ^ k):Nat):Int):=by rw[h4]
 simp only[Int.natCast_add,Int.natCast_mul,Int.natCast_pow,Int.natCast_emod]at h5 ⊢;simp only[Int.cast_ofNat_Int]at h5 ⊢;omega
theorem Rm {L p i u0 x y d T:Int} (h:L*p=T-u0+i*(x % p)) (hd:d*p=x-x % p+4294967296*(y % p)):(L+i*d)*p=T+i*x-u0+i*4294967296*(y % p):=by
 have:(L+i*d)*p=L*p+i*(d*p):=by grind
 rw[this,h,hd];grind
theorem LS {x:Nat} (h0:0<x) (h:x<4294967296):∃ k:Nat,k<32/\2147483648<=x*2 ^ k/\x*2 ^ k<4294967296:=by
 obtain⟨h1,h2⟩:=(Nat.log2_eq_iff (n:=x) (k:=x.log2) aw).1 rfl;have h3:x.log2<32:=by
  rcases Nat.lt_or_ge x.log2 32 with h|h
  ·exact h
  ·have:2 ^ 32<=2 ^ x.log2:=Nat.pow_le_pow_right (n:=2) aH h;omega
 have hp:0<2 ^ (31-x.log2):=Nat.pow_pos aH;refine⟨31-x.log2,aw,?_,?_⟩
 ·have:2 ^ x.log2*2 ^ (31-x.log2)=2147483648:=by rw[<-Nat.pow_add,show x.log2+(31-x.log2)=31 from by omega]
  have:=Nat.mul_le_mul_right (2 ^ (31-x.log2)) h1;omega
 ·have:2 ^ (x.log2+1)*2 ^ (31-x.log2)=4294967296:=by rw[<-Nat.pow_add,show x.log2+1+(31-x.log2)=32 from by omega]
  have:=Nat.mul_lt_mul_of_pos_right h2 hp;omega
theorem gA {l:List Int} {i j:Nat} {d:Int} (h:i<=j):(l.set j d).take i=l.take i:=by
 rw[List.take_set,List.set_eq_of_length_le ar]
theorem kL {l:List Int} {i j:Nat} {d:Int} (h:j<i):(l.set j d).drop i=l.drop i:=by
 rw[List.drop_set_of_lt h]
theorem bZ (l:List Int) (i:Nat) (h:i<=l.length):val l=val (l.take i)+4294967296 ^ i*val (l.drop i):=by
 conv=>lhs;rw[<-List.take_append_drop i l]
 rw[it,List.length_take,Nat.min_eq_left h]
set_option maxHeartbeats 4000000 in
theorem LM (a b:List Int) (Q R:List Int) (ha:Dig a) (hb:Dig b) (tb:Tr b) (hlb:2<=b.length) (hle:b.length<=a.length) (hla:a.length<8796093022208) (hQ:Q=digs (a.length+1-b.length) (val a/val b)) (hR:R=digs b.length (val a % val b)) :
  Fn Tryz.prog 244 [iL a,iL b] [iL Q,iL R]:=by
 refine aJ (fn:=Tryz.f244) ?_;obtain⟨n,hn⟩:∃ n,n=b.length:=⟨_,rfl⟩;have hn2:2<=n:=aw;have htop:(4294967296:Int) ^ (n-1)<=val b:=by rw[hn];exact o7 hb tb (by intro e;rw[e]at hlb;simp at hlb)
 simp -dsimp only[go_sem]
 repeat(refine And.intro aw ?_)
 refine cf (n-1) aw aw ?_;have hbt:=hb.get (i:=n-1) aw;have hbpos:0<b[n-1]:=by
  have h1:=fO (l:=b) (i:=n-1) aw;have h2:=eA (hb.take (n-1));rw[show b.drop (n-1+1)=[]from List.drop_of_length_le aw]at h1;simp only[val,List.length_take,Nat.min_eq_left (show n-1<=b.length by omega)]at h1 h2;rcases Int.lt_or_le 0 b[n-1]with h|h
  ·exact h
  ·rw[show b[n-1]=0 from by omega]at h1;simp at h1;omega
 obtain⟨k,hk,hk1,hk2⟩:=LS (x:=b[n-1].toNat) aw aw;simp -dsimp only[go_sem];have hbtn:b[n-1]=((b[n-1].toNat:Nat):Int):=aw;rw[hbtn];refine aK (qJ _ k aw hk hk1 hk2) ?_;obtain⟨u0,hu0⟩:∃ u0,u0=digs (a.length+1) (val a*2 ^ k):=⟨_,rfl⟩;obtain⟨v0,hv0⟩:∃ v0,v0=digs (b.length+1) (val b*2 ^ k):=⟨_,rfl⟩;have hul:u0.length=a.length+1:=by rw[hu0,cP]
 have hvl:v0.length=n+1:=by rw[hv0,cP,hn]
 have hud:Dig u0:=by rw[hu0];exact dw _ _
 have hvd:Dig v0:=by rw[hv0];exact dw _ _
 simp -dsimp only[go_sem];refine ap 11 [] true true ?_;simp -dsimp only[go_sem];refine co (zt a u0 k ha hk aw hu0) ?_;simp -dsimp only[go_sem];refine co (zt b v0 k hb hk aw hv0) ?_;simp -dsimp only[go_sem,hul,hvl,<-hn];rw[JM (show n<=a.length+1 by omega)]
 repeat(refine And.intro aw ?_)
 obtain⟨hp1,hp2⟩:=DW hk;obtain⟨p2,hp2e⟩:∃ p2:Int,p2=2 ^ k:=⟨_,rfl⟩;rw[<-hp2e]at hp1 hp2;obtain⟨V,hV⟩:∃ V,V=val (v0.take n):=⟨_,rfl⟩;obtain⟨v1,hv1⟩:∃ v1,v1=v0[n-1]:=⟨_,rfl⟩;obtain⟨v2,hv2⟩:∃ v2,v2=v0[n-2]:=⟨_,rfl⟩;have hbx:(b[n-1]+1)*p2<=4294967296:=by
  have e0:(4294967296:Nat)=2 ^ (32-k)*2 ^ k:=by rw[<-Nat.pow_add];rw[show 32-k+k=32 from by omega]
  have h1:b[n-1].toNat<2 ^ (32-k):=Nat.lt_of_mul_lt_mul_right (a:=2 ^ k) aw;have h2:(b[n-1].toNat+1)*2 ^ k<=2 ^ (32-k)*2 ^ k:=Nat.mul_le_mul_right _ h1;have h3:(((b[n-1].toNat+1)*2 ^ k:Nat):Int)=(b[n-1]+1)*p2:=by rw[hp2e,hbtn];simp
  rw[<-h3];omega
 have hbsp:val b=val (b.take (n-1))+4294967296 ^ (n-1)*b[n-1]:=by
  have h1:=fO (l:=b) (i:=n-1) aw;rw[show b.drop (n-1+1)=[]from List.drop_of_length_le aw]at h1;simpa [val]using h1
 have hbt1:=eA (hb.take (n-1));rw[List.length_take,Nat.min_eq_left aw]at hbt1;have hbt0:=bm (hb.take (n-1));have hPn:=cx (n-1);have hBn:(4294967296:Int) ^ n=4294967296 ^ (n-1)*4294967296:=by rw[<-Int.pow_succ];congr 1;omega
 have hVlt:val b*p2<4294967296 ^ n:=by
  have h1:val b<4294967296 ^ (n-1)*(b[n-1]+1):=by rw[Int.mul_add];omega
  have h2:=Int.mul_lt_mul_of_pos_right h1 (show 0<p2 by omega);have h3:=Int.mul_le_mul_of_nonneg_left hbx (Int.le_of_lt hPn);rw[<-Int.mul_assoc]at h3;rw[hBn];omega
 have hb0:=bm hb;have hv0v:val v0=val b*p2:=by
  rw[hv0,<-hp2e,<-hn,f0 (Int.mul_nonneg hb0 aw)];rw[Int.pow_succ];have:=cx n;omega
 have hVb:V=val b*p2:=by
  have h1:=bZ v0 n aw;rw[hv0v,<-hV]at h1;have h2:=bm (hvd.drop n);have h3:=bm (hvd.take n);rw[<-hV]at h3;rcases Int.lt_or_le 0 (val (v0.drop n))with h|h
  ·have:=Int.mul_le_mul_of_nonneg_left (show 1<=val (v0.drop n)by omega) (Int.le_of_lt (cx n));omega
  ·rw[show val (v0.drop n)=0 from by omega]at h1;omega
 have hVsp:V=val (v0.take (n-1))+4294967296 ^ (n-1)*v1:=by
  have h1:=bM (l:=v0) (i:=n-1) aw;rw[show n-1+1=n from by omega,<-hV,<-hv1]at h1;exact h1
 have hvt1:=eA (hvd.take (n-1));rw[List.length_take,Nat.min_eq_left aw]at hvt1;have hvt0:=bm (hvd.take (n-1));have hv1b:2147483648<=v1:=by
  have h1:4294967296 ^ (n-1)*(b[n-1]*p2)<=V:=by
   rw[hVb,<-Int.mul_assoc];exact Int.mul_le_mul_of_nonneg_right aw aw
  have h2:2147483648<=b[n-1]*p2:=by
   have h3:((b[n-1].toNat*2 ^ k:Nat):Int)=b[n-1]*p2:=by rw[hp2e,hbtn];simp
   rw[<-h3];omega
  have h3:=Int.mul_le_mul_of_nonneg_left h2 (Int.le_of_lt hPn);have h4:4294967296 ^ (n-1)*2147483648<4294967296 ^ (n-1)*(v1+1):=by rw[Int.mul_add _ v1];omega
  have:=Int.lt_of_mul_lt_mul_left h4 (Int.le_of_lt hPn);omega
 have ha0:=bm ha;have halt:=eA ha;have haP:val a*p2<4294967296 ^ a.length*p2:=Int.mul_lt_mul_of_pos_right halt aw;have huv:val u0=val a*p2:=by
  rw[hu0,<-hp2e,f0 (Int.mul_nonneg ha0 aw)];rw[Int.pow_succ];have:=Int.mul_le_mul_of_nonneg_left (show p2<=4294967296 by omega) (Int.le_of_lt (cx a.length));omega
 have htopu:val (u0.drop (a.length+1-n))<V:=by
  have h1:=bZ u0 (a.length+1-n) aw;have h2:=bm (hud.take (a.length+1-n));have h3:(4294967296:Int) ^ a.length=4294967296 ^ (a.length+1-n)*4294967296 ^ (n-1):=by rw[<-Int.pow_add];congr 1;omega
  rw[h3,Int.mul_assoc]at haP;have h4:4294967296 ^ (a.length+1-n)*val (u0.drop (a.length+1-n))<4294967296 ^ (a.length+1-n)*(4294967296 ^ (n-1)*p2):=aw;have h5:=Int.lt_of_mul_lt_mul_left h4 (Int.le_of_lt (cx _));have h6:=Int.mul_le_mul_of_nonneg_right htop (show 0<=p2 by omega);omega
 have hv1r:=hvd.get (i:=n-1) aw;have hv2r:=hvd.get (i:=n-2) aw;rw[<-hv1]at hv1r;rw[<-hv2]at hv2r;have hVsplit:V=(v1*4294967296+v2)*4294967296 ^ (n-2)+val (v0.take (n-2)):=by
  have h1:=K7 (v:=v0.take n) hn2 ar;simp only[List.getElem_take,List.take_take,Nat.min_eq_left (show n-2<=n by omega),<-hV,<-hv1,<-hv2]at h1;exact h1
 have hV0:0<V:=by
  have:=Int.mul_le_mul_of_nonneg_left (show 1<=v1 by omega) (Int.le_of_lt hPn);omega
 refine bt [(10,22),(52,224)] [] [(33,33),(46,46)] (fun m τ β ε=>m<=a.length+1-n/\τ 10=aI ((m:Int)-1) /\
   ∃(U l r:List Int),ε 33=⟨1,1,U.map bG,true,true⟩/\U.length=a.length+1/\Dig U/\ε 46=⟨1,1,(l++r).map bG,true,true⟩/\l.length=m/\(l++r).length=a.length+1-n/\Dig r /\
    val u0=4294967296 ^ m*(val r*V)+val U/\val (U.drop m)<V)
  (fun e τ β ε=>e = .exit 0/\∃(U r:List Int),ε 33=⟨1,1,U.map bG,true,true⟩/\U.length=a.length+1/\Dig U/\ε 46=⟨1,1,r.map bG,true,true⟩/\r.length=a.length+1-n/\Dig r /\
    val u0=val r*V+val U/\val U<V) (a.length+1-n) ?_ ?_ ?_
 ·refine⟨aw,by simp[bT],u0,List.replicate (a.length+1-n) 0,[],?_,hul,hud,?_,au,au,Dig.nil,by simp[val],htopu⟩
  ·simp -dsimp only[go_sem];simp[hul];rintro rfl;simp at hul
  ·simp -dsimp only[go_sem];simp[eV]
 ·rintro m τ β ε π hK hKB hKE ⟨hm,h10,U,l,r,hE,hUl,hUd,hE',hll,hlr,hrd,hval,hlt⟩;have h4:τ 4 = .sl 46 1 (a.length+1-n):=hK 4 aH;have h7:τ 7 = .sl 33 1 (a.length+1):=(hK 7 aH).trans (by rw[<-hul];rfl);have h8:τ 8 = .sl 36 1 n:=hK 8 aH;have h9:τ 9=aI n:=hK 9 aH;have hE36:ε 36=⟨1,1,v0.map bG,true,true⟩:=(hKE 36 aH).trans (by
   have:(List.map bG v0).isEmpty=false:=by
    cases v0 with
    | nil=>simp at hvl
    | cons _ _=>rfl
   simp[bT,this])
  simp -dsimp only[go_sem,h4,h7,h8,h9,h10,hE,hE',hE36];refine bi (fun h=>?_) (fun h=>?_)<;>simp -dsimp only[go_sem,h4,h7,h8,h9,h10,hE,hE',hE36,hK,hKB,hKE]
  ·obtain⟨i,rfl⟩:∃ i,m=i+1:=⟨m-1,aw⟩
   replace h10:τ 10=aI i:=h10.trans (ja aw)
   clear hm h;have hin:i+n<U.length:=by simp at hlr;omega
   obtain⟨W,hW⟩:∃ W,W=val (U.drop i):=⟨_,rfl⟩;have hW1:W=U[i]+4294967296*val (U.drop (i+1)):=by rw[hW];exact cd aw
   have hui:=hUd.get (i:=i) aw;have hWV:W<4294967296*V:=aw;have hW0:0<=W:=by rw[hW];exact bm (hUd.drop i)
   have hVB:V<4294967296 ^ n:=by
    have:=eA (hvd.take n);rw[<-hV,List.length_take,Nat.min_eq_left aw]at this;exact this
   have hz:val (U.drop (i+n+1))=0:=by
    have h1:=bZ (U.drop (i+1)) n ar;rw[List.drop_drop,show i+1+n=i+n+1 from by omega]at h1;have h2:=bm ((hUd.drop (i+1)).take n);have h3:=bm (hUd.drop (i+n+1));rcases Int.lt_or_le 0 (val (U.drop (i+n+1)))with h|h
    ·have h4:(4294967296:Int) ^ n*1<=4294967296 ^ n*val (U.drop (i+n+1)):=Int.mul_le_mul_of_nonneg_left aw aw;omega
    ·omega
   have h3:=Fz (M:=U.drop i) hn2 ar (by rw[List.drop_drop,show i+(n+1)=i+n+1 from by omega];exact hz);rw[<-hW]at h3;simp only[List.getElem_drop]at h3;have hr0:=hUd.get hin;have hr1:=hUd.get (i:=i+(n-1)) aw;have hr2:=hUd.get (i:=i+(n-2)) aw;obtain⟨q,hq⟩:∃ q,q=W/V:=⟨_,rfl⟩;have hq1:q*V<=W:=by rw[hq];exact Int.ediv_mul_le W aw
   have hq2:W<(q+1)*V:=by rw[hq];exact Int.lt_ediv_add_one_mul_self W hV0
   have hq0:0<=q:=by rw[hq];exact Int.ediv_nonneg hW0 aw
   have hqB:q<4294967296:=by rw[hq];exact Int.ediv_lt_of_lt_mul hV0 (by rw[Int.mul_comm]at hWV;rw[Int.mul_comm];omega)
   refine ap 18 [] false true ?_;simp -dsimp only[go_sem,h4,h7,h8,h9,h10,hE,hE',hE36,hK,hKB,hKE,hUl]
   repeat(refine And.intro aw ?_)
   refine aV hin ?_;simp -dsimp only[go_sem,h4,h7,h8,h9,h10,hE,hE',hE36,hK,hKB,hKE,hUl]
   repeat(refine And.intro aw ?_)
   refine cf (i+(n-1)) aw aw ?_;obtain⟨x0,hx0⟩:∃ x,x=U[i+n]:=⟨_,rfl⟩;obtain⟨x1,hx1⟩:∃ x,x=U[i+(n-1)]:=⟨_,rfl⟩;obtain⟨x2,hx2⟩:∃ x,x=U[i+(n-2)]:=⟨_,rfl⟩;rw[<-hx0]at h3 hr0;rw[<-hx1]at h3 hr1;rw[<-hx2]at h3 hr2;rw[<-hx0,<-hx1];have e1:or64 (x0 % 18446744073709551616*4294967296 % 18446744073709551616) (x1 % 18446744073709551616)=x0*4294967296+x1:=by
    rw[Int.emod_eq_of_lt hr0.1 aw,Int.emod_eq_of_lt aw aw,Int.emod_eq_of_lt hr1.1 aw];exact pZ hr0 hr1
   obtain⟨top,ht⟩:∃ t,t=x0*4294967296+x1:=⟨_,rfl⟩;rw[<-ht]at e1 h3;simp -dsimp only[go_sem,h4,h7,h8,h9,h10,hE,hE',hE36,hK,hKB,hKE,hUl,e1];refine ap 18 [] false true ?_;simp -dsimp only[go_sem,h4,h7,h8,h9,h10,hE,hE',hE36,hK,hKB,hKE,hUl,e1]
   repeat(refine And.intro aw ?_)
   refine cf (n-1) aw aw ?_;rw[<-hv1];have ev1:v1 % 18446744073709551616=v1:=Int.emod_eq_of_lt hv1r.1 aw;have ht0:0<=top:=aw;have et1:top.tdiv v1=top/v1:=Int.tdiv_eq_ediv_of_nonneg ht0;have et2:top.tmod v1=top % v1:=Int.tmod_eq_emod_of_nonneg ht0;obtain⟨g0,hg0⟩:∃ g,g=top/v1:=⟨_,rfl⟩;obtain⟨s0,hs0⟩:∃ g,g=top % v1:=⟨_,rfl⟩;rw[<-hg0]at et1;rw[<-hs0]at et2;have hs1:0<=s0:=by rw[hs0];exact Int.emod_nonneg _ aw
   have hs2:s0<v1:=by rw[hs0];exact Int.emod_lt_of_pos _ aw
   have hgs:g0*v1+s0=top:=by rw[hg0,hs0];have:=Int.emod_add_mul_ediv top v1;rw[Int.mul_comm];omega
   have hg1:0<=g0:=by rw[hg0];exact Int.ediv_nonneg ht0 aw
   have hPp:(0:Int)<4294967296 ^ (n-2):=cx _;have hV2:0<=val (v0.take (n-2))/\val (v0.take (n-2))<4294967296 ^ (n-2):=by
    refine⟨bm (hvd.take _),?_⟩;have:=eA (hvd.take (n-2));rwa [List.length_take,Nat.min_eq_left aw]at this
   have hW2:0<=val ((U.drop i).take (n-2))/\val ((U.drop i).take (n-2))<4294967296 ^ (n-2):=by
    refine⟨bm ((hUd.drop i).take _),?_⟩;have:=eA ((hUd.drop i).take (n-2));rwa [List.length_take,List.length_drop,Nat.min_eq_left aw]at this
   have hx0v:x0<=v1:=by
    have h1:=bZ (U.drop (i+1)) (n-1) ar;rw[List.drop_drop,show i+1+(n-1)=i+n from by omega,cd hin,<-hx0]at h1;have h2:=bm ((hUd.drop (i+1)).take (n-1));have h4:=bm (hUd.drop (i+n+1));have h5:4294967296 ^ (n-1)*x0<4294967296 ^ (n-1)*(v1+1):=by
     have:=Int.mul_le_mul_of_nonneg_left (show x0<=x0+4294967296*val (U.drop (i+n+1))by omega) (Int.le_of_lt hPn);rw[Int.mul_add _ v1];omega
    have:=Int.lt_of_mul_lt_mul_left h5 (Int.le_of_lt hPn);omega
   have hgB:g0<=4294967297:=by
    have:g0<4294967298:=by rw[hg0];exact Int.ediv_lt_of_lt_mul aw aw
    omega
   have hqg:q<=g0:=by
    rw[hg0];refine Int.le_ediv_of_mul_le aw ?_;have h4:(q*v1)*(4294967296*4294967296 ^ (n-2))<(top+1)*(4294967296*4294967296 ^ (n-2)):=by
     have h5:q*V=q*v1*(4294967296*4294967296 ^ (n-2))+q*(v2*4294967296 ^ (n-2)+val (v0.take (n-2))):=by rw[hVsplit];exact ar_q ..
     have h6:0<=q*(v2*4294967296 ^ (n-2)+val (v0.take (n-2))):=Int.mul_nonneg hq0 (by have:=Int.mul_nonneg hv2r.1 (Int.le_of_lt hPp);omega);have h7:(x2+1)*4294967296 ^ (n-2)<=4294967296*4294967296 ^ (n-2):=Int.mul_le_mul_of_nonneg_right aw aw;have h8:(top*4294967296+x2)*4294967296 ^ (n-2)+4294967296 ^ (n-2)=top*(4294967296*4294967296 ^ (n-2))+(x2+1)*4294967296 ^ (n-2):=Ro ..;rw[Int.add_mul top];omega
    have:=Int.lt_of_mul_lt_mul_right h4 aw;omega
   simp -dsimp only[go_sem,h4,h7,h8,h9,h10,hE,hE',hE36,hK,hKB,hKE,hUl,e1,ev1,et1,et2]
   repeat(refine And.intro aw ?_)
   refine cf (n-1) aw aw ?_;rw[<-hv1];simp -dsimp only[go_sem,h4,h7,h8,h9,h10,hE,hE',hE36,hK,hKB,hKE,hUl,e1,ev1,et1,et2]
   repeat(refine And.intro aw ?_)
   have eg0:g0 % 18446744073709551616=g0:=Int.emod_eq_of_lt hg1 aw;rw[eg0];refine a8 [(12,13),(89,124)] [] [] (fun m τ β ε=>∃ g s:Int,m=g.toNat/\τ 12=aW g/\τ 13=aW s/\0<=g/\g<=4294967297/\q<=g/\0<=s/\s<4294967296/\g*v1+s=top)
    (fun e τ β ε=>e = .exit 2/\∃ g:Int,τ 12=aW g/\q<=g/\g<=q+1) g0.toNat ?_ ?_ ?_
   ·exact⟨g0,s0,rfl,by simp[bT],by simp[bT],hg1,hgB,hqg,hs1,aw,hgs⟩
   ·rintro j τ' β' ε' π' gK gKB gKE ⟨g,s,hj,g12,g13,hgg0,hggB,hgq,hss0,hssB,hgst⟩;have g7:τ' 7 = .sl 33 1 (a.length+1):=(gK 7 aH).trans h7;have g8:τ' 8 = .sl 36 1 n:=(gK 8 aH).trans h8;have g9:τ' 9=aI n:=(gK 9 aH).trans h9;have g10:τ' 10=aI i:=(gK 10 aH).trans h10;have gE:ε' 33=⟨1,1,U.map bG,true,true⟩:=(gKE 33 aH).trans hE;have gE36:ε' 36=⟨1,1,v0.map bG,true,true⟩:=(gKE 36 aH).trans hE36;refine ap 24 [] false true ?_;by_cases hb1:4294967295<g
    ·simp -dsimp only[go_sem,g7,g8,g9,g10,g12,g13,gE,gE36,gK,gKB,gKE,hb1]
     repeat(refine And.intro aw ?_)
     refine cf (n-1) aw aw ?_;rw[<-hv1];have hgq':q<=g-1:=uL hVsplit h3 hPp hV2.1 hW2.2 hq1 hqB hgst hgq hgg0 (.inl hb1) aw;have eg1:(g-1) % 18446744073709551616=g-1:=Int.emod_eq_of_lt aw aw;have eg2:(s+v1) % 18446744073709551616=s+v1:=Int.emod_eq_of_lt aw aw;have eg3:(g-1)*v1+(s+v1)=top:=by rw[<-hgst,Int.sub_mul];omega
     simp -dsimp only[go_sem,g7,g8,g9,g10,g12,g13,gE,gE36,gK,gKB,gKE,hb1,ev1,eg1,eg2];refine bi (fun hs3=>?_) (fun hs3=>?_)<;>simp -dsimp only[go_sem,g7,g8,g9,g10,g12,g13,gE,gE36,gK,gKB,gKE,hb1,ev1,eg1,eg2]
     ·refine⟨g-1,rfl,hgq',?_⟩;have:=sw hVsplit h3 hPp hV2 hW2.1 hq2 eg3 aw hr2.1 aw hv2r aw aw;omega
     ·refine again (g-1).toNat aw ?_;simp -dsimp only[go_sem,g7,g8,g9,g10,g12,g13,gE,gE36,gK,gKB,gKE,hb1,ev1,eg1,eg2];exact⟨g-1,s+v1,rfl,rfl,rfl,aw,aw,hgq',aw,aw,eg3⟩
    ·simp -dsimp only[go_sem,g7,g8,g9,g10,g12,g13,gE,gE36,gK,gKB,gKE,hb1]
     repeat(refine And.intro aw ?_)
     refine cf (n-2) aw aw ?_;rw[<-hv2];simp -dsimp only[go_sem,g7,g8,g9,g10,g12,g13,gE,gE36,gK,gKB,gKE,hb1]
     repeat(refine And.intro aw ?_)
     refine cf (i+(n-2)) aw aw ?_;rw[<-hx2];have ho1:or64 (s*4294967296 % 18446744073709551616) (x2 % 18446744073709551616)=s*4294967296+x2:=by
      rw[Int.emod_eq_of_lt aw aw,Int.emod_eq_of_lt hr2.1 aw];exact pZ ⟨hss0,hssB⟩ hr2
     have ev2:v2 % 18446744073709551616=v2:=Int.emod_eq_of_lt hv2r.1 aw;have hgv0:0<=g*v2:=Int.mul_nonneg hgg0 hv2r.1;have hgv1:g*v2<=4294967295*4294967295:=Int.mul_le_mul aw aw hv2r.1 aw;have egv:g*v2 % 18446744073709551616=g*v2:=Int.emod_eq_of_lt hgv0 aw;simp -dsimp only[go_sem,g7,g8,g9,g10,g12,g13,gE,gE36,gK,gKB,gKE,hb1,ho1,ev2,egv];refine bi (fun hc=>?_) (fun hc=>?_)<;>simp -dsimp only[go_sem,g7,g8,g9,g10,g12,g13,gE,gE36,gK,gKB,gKE,hb1,ho1,ev2,egv]
     ·skip
      repeat(refine And.intro aw ?_)
      refine cf (n-1) aw aw ?_;rw[<-hv1];have hgq':q<=g-1:=uL hVsplit h3 hPp hV2.1 hW2.2 hq1 hqB hgst hgq hgg0 (.inr hc) aw;have eg1:(g-1) % 18446744073709551616=g-1:=Int.emod_eq_of_lt aw aw;have eg2:(s+v1) % 18446744073709551616=s+v1:=Int.emod_eq_of_lt aw aw;have eg3:(g-1)*v1+(s+v1)=top:=by rw[<-hgst,Int.sub_mul];omega
      simp -dsimp only[go_sem,g7,g8,g9,g10,g12,g13,gE,gE36,gK,gKB,gKE,hb1,ho1,ev2,egv,ev1,eg1,eg2];refine bi (fun hs3=>?_) (fun hs3=>?_)<;>simp -dsimp only[go_sem,g7,g8,g9,g10,g12,g13,gE,gE36,gK,gKB,gKE,hb1,ho1,ev2,egv,ev1,eg1,eg2]
      ·refine⟨g-1,rfl,hgq',?_⟩;have:=sw hVsplit h3 hPp hV2 hW2.1 hq2 eg3 aw hr2.1 aw hv2r aw aw;omega
      ·refine again (g-1).toNat aw ?_;simp -dsimp only[go_sem,g7,g8,g9,g10,g12,g13,gE,gE36,gK,gKB,gKE,hb1,ho1,ev2,egv,ev1,eg1,eg2];exact⟨g-1,s+v1,rfl,rfl,rfl,aw,aw,hgq',aw,aw,eg3⟩
     ·refine⟨g,rfl,hgq,?_⟩;exact CC hVsplit h3 hPp hV2 hW2.1 hq2 hgst hgg0 aw hv2r.1 aw aw
   ·rintro e τ' β' ε' π' gK gKB gKE ⟨rfl,g,g12,hgq,hgq1⟩;have g7:τ' 7 = .sl 33 1 (a.length+1):=(gK 7 aH).trans h7;have g8:τ' 8 = .sl 36 1 n:=(gK 8 aH).trans h8;have g9:τ' 9=aI n:=(gK 9 aH).trans h9;have g10:τ' 10=aI i:=(gK 10 aH).trans h10;have gE:ε' 33=⟨1,1,U.map bG,true,true⟩:=(gKE 33 aH).trans hE;have gE36:ε' 36=⟨1,1,v0.map bG,true,true⟩:=(gKE 36 aH).trans hE36;simp -dsimp only[go_sem,g7,g8,g9,g10,g12,gE,gE36];have hgg0:0<=g:=aw;have gBi:g<=4294967296:=aw;refine a8 [(14,18),(127,162)] [] [(33,33)] (fun m τ β ε=>∃ j:Nat,m=n-j/\j<=n/\τ 127=aI j/\∃ c bo:Int,τ 14=aW c/\τ 15=aW bo/\0<=c/\c<=g/\(0<g->c<g)/\0<=bo/\bo<=1 /\
      ∃ M:List Int,ε 33=⟨1,1,M.map bG,true,true⟩/\M.length=a.length+1/\Dig M/\M.take i=U.take i/\M.drop (i+n)=U.drop (i+n)/\val M-4294967296 ^ (i+j)*(c+bo)=val U-4294967296 ^ i*(g*val (v0.take j)))
     (fun e τ β ε=>e = .exit 4/\∃ c bo:Int,τ 14=aW c/\τ 15=aW bo/\0<=c/\c<=g/\(0<g->c<g)/\0<=bo/\bo<=1 /\
      ∃ M:List Int,ε 33=⟨1,1,M.map bG,true,true⟩/\M.length=a.length+1/\Dig M/\M.take i=U.take i/\M.drop (i+n)=U.drop (i+n)/\val M-4294967296 ^ (i+n)*(c+bo)=val U-4294967296 ^ i*(g*V)) n ?_ ?_ ?_
    ·exact⟨0,aw,aw,rfl,0,0,by simp[bT],by simp[bT],aw,aw,fun h=>h,aw,aw,U,gE,hUl,hUd,rfl,rfl,by simp[val]⟩
    ·rintro m τ2 β2 ε2 π2 lK lKB lKE ⟨j,hj,hjn,l127,c,bo,l14,l15,hc0,hcg,hcg',hb0,hb1,M,lE,hMl,hMd,hMt,hMdr,hMv⟩;have l7:τ2 7 = .sl 33 1 (a.length+1):=(lK 7 aH).trans g7;have l10:τ2 10=aI i:=(lK 10 aH).trans g10;have l12:τ2 12=aW g:=(lK 12 aH).trans g12;have l125:τ2 125 = .sl 36 1 n:=lK 125 aH;have l126:τ2 126=aI n:=lK 126 aH;have lE36:ε2 36=⟨1,1,v0.map bG,true,true⟩:=(lKE 36 aH).trans gE36;simp -dsimp only[go_sem,l7,l10,l12,l14,l15,l125,l126,l127,lE,lE36,lK,lKB,lKE];refine bi (fun h=>?_) (fun h=>?_)<;>simp -dsimp only[go_sem,l7,l10,l12,l14,l15,l125,l126,l127,lE,lE36,lK,lKB,lKE]
     ·have hjn':j<n:=aw;have hvj:=hvd.get (i:=j) aw;have hij:i+j<M.length:=aw;have hMij:=hMd.get hij;have hgv0:0<=g*v0[j]:=Int.mul_nonneg hgg0 hvj.1;have hgv1:g*v0[j]<=g*4294967295:=Int.mul_le_mul_of_nonneg_left aw hgg0;have ev:v0[j] % 18446744073709551616=v0[j]:=Int.emod_eq_of_lt hvj.1 aw;have egv:g*v0[j] % 18446744073709551616=g*v0[j]:=Int.emod_eq_of_lt hgv0 aw;have ecg:(c+g*v0[j]) % 18446744073709551616=c+g*v0[j]:=Int.emod_eq_of_lt aw aw
      repeat(refine And.intro aw ?_)
      refine aV aw ?_;simp -dsimp only[go_sem,l7,l10,l12,l14,l15,l125,l126,l127,lE,lE36,lK,lKB,lKE,ev,egv,ecg]
      repeat(refine And.intro aw ?_)
      refine aV hij ?_;simp -dsimp only[go_sem,l7,l10,l12,l14,l15,l125,l126,l127,lE,lE36,lK,lKB,lKE,ev,egv,ecg]
      repeat(refine And.intro aw ?_)
      refine aV hij ?_;simp -dsimp only[go_sem,l7,l10,l12,l14,l15,l125,l126,l127,lE,lE36,lK,lKB,lKE,ev,egv,ecg]
      repeat(refine And.intro aw ?_)
      refine again (n-(j+1)) aw ?_;simp -dsimp only[go_sem,l7,l10,l12,l14,l15,l125,l126,l127,lE,lE36,lK,lKB,lKE,ev,egv,ecg];have hch:=Int.emod_add_mul_ediv (c+g*v0[j]) 4294967296;have hcl0:0<=(c+g*v0[j]) % 4294967296:=Int.emod_nonneg _ aH;have hcl1:(c+g*v0[j]) % 4294967296<4294967296:=Int.emod_lt_of_pos _ aH;obtain⟨cl,hcl⟩:∃ z,z=(c+g*v0[j]) % 4294967296:=⟨_,rfl⟩;obtain⟨ch,hchh⟩:∃ z,z=(c+g*v0[j])/4294967296:=⟨_,rfl⟩;rw[<-hcl,<-hchh]at hch;rw[<-hcl]at hcl0 hcl1;rw[<-hcl,<-hchh];obtain⟨x,hx⟩:∃ z,z=M[i+j]:=⟨_,rfl⟩;rw[<-hx]at hMij;rw[<-hx];have es:((x % 18446744073709551616-cl % 18446744073709551616) % 18446744073709551616-bo) % 18446744073709551616 % 4294967296=(x-cl-bo) % 4294967296:=aw;have eb:((x % 18446744073709551616-cl % 18446744073709551616) % 18446744073709551616-bo) % 18446744073709551616/9223372036854775808=if x-cl-bo<0 then 1 else 0:=by split<;>omega
      have ed:(x-cl-bo) % 4294967296=x-cl-bo+4294967296*(if x-cl-bo<0 then 1 else 0):=by split<;>omega
      rw[es,eb];refine⟨j+1,rfl,aw,rfl,ch,if x-cl-bo<0 then 1 else 0,rfl,rfl,aw,aw,by intro hg;have:=hcg' hg;omega,by split<;>omega,by split<;>omega,M.set (i+j) ((x-cl-bo) % 4294967296),rfl,by simp[hMl],hMd.set aw,
       (gA aw).trans hMt,(kL aw).trans hMdr,?_⟩
      rw[ju hij,bM aw,<-hx,ed];have e4:(4294967296:Int) ^ (i+(j+1))=4294967296 ^ i*(4294967296 ^ j*4294967296):=by rw[Int.pow_add,Int.pow_succ]
      have e5:(4294967296:Int) ^ (i+j)=4294967296 ^ i*4294967296 ^ j:=Int.pow_add ..;rw[e5]at hMv ⊢;rw[e4];exact Pw hMv hch
     ·have hjn':j=n:=aw;subst hjn';refine⟨c,bo,rfl,rfl,hc0,hcg,hcg',hb0,hb1,M,rfl,hMl,hMd,hMt,hMdr,?_⟩;rw[hV];exact hMv
    ·rintro e τ2 β2 ε2 π2 lK lKB lKE ⟨rfl,c,bo,l14,l15,hc0,hcg,hcg',hb0,hb1,M,lE,hMl,hMd,hMt,hMdr,hMv⟩;have l4:τ2 4 = .sl 46 1 (a.length+1-n):=(lK 4 aH).trans ((gK 4 aH).trans h4);have l7:τ2 7 = .sl 33 1 (a.length+1):=(lK 7 aH).trans g7;have l8:τ2 8 = .sl 36 1 n:=(lK 8 aH).trans g8;have l9:τ2 9=aI n:=(lK 9 aH).trans g9;have l10:τ2 10=aI i:=(lK 10 aH).trans g10;have l12:τ2 12=aW g:=(lK 12 aH).trans g12;have lE36:ε2 36=⟨1,1,v0.map bG,true,true⟩:=(lKE 36 aH).trans gE36;have lE46:ε2 46=⟨1,1,(l++r).map bG,true,true⟩:=(lKE 46 aH).trans ((gKE 46 aH).trans hE');have kO:=Kp.step2 hK gK (by intro n;simp[inR];omega) (aA hK);have kO2:=Kp.step2 kO lK (by intro n;simp[inR];omega) (aA kO);have kB:=Kp.step2 hKB gKB (by simp[inR]) hKB;have kB2:=Kp.step2 kB lKB (by simp[inR]) kB;have kE:=Kp.step2 hKE gKE (by intro n;simp[inR]) hKE;have kE2:=Kp.step2 kE lKE (by intro n;simp[inR];omega) kE;have hiM:i+n<M.length:=aw;have hMin:M[i+n]=x0:=by
      have e1:=List.drop_eq_getElem_cons hiM;have e2:=List.drop_eq_getElem_cons hin;rw[hMdr,e2]at e1;rw[hx0];exact(List.cons.inj e1).1.symm
     simp -dsimp only[go_sem,l4,l7,l8,l9,l10,l12,l14,l15,lE,lE36,lE46]
     repeat(refine And.intro aw ?_)
     refine aV hiM ?_;rw[hMin];simp -dsimp only[go_sem,l4,l7,l8,l9,l10,l12,l14,l15,lE,lE36,lE46]
     repeat(refine And.intro aw ?_)
     refine aV hiM ?_;simp -dsimp only[go_sem,l4,l7,l8,l9,l10,l12,l14,l15,lE,lE36,lE46];have etest:((x0 % 18446744073709551616-c) % 18446744073709551616-bo) % 18446744073709551616/9223372036854775808=if x0-c-bo<0 then 1 else 0:=by split<;>omega
     have estore:((x0 % 18446744073709551616-c) % 18446744073709551616-bo) % 18446744073709551616 % 4294967296=(x0-c-bo) % 4294967296:=aw;have hUt:=bZ U i aw;rw[<-hW]at hUt;have done:∀(M':List Int),Dig M'->M'.length=a.length+1->M'.take i=U.take i->val M'=val U-4294967296 ^ i*(q*V) ->
       val u0=4294967296 ^ i*(val (q::r)*V)+val M'/\val (M'.drop i)<V:=by
      intro M' d1 d2 d3 d4;refine⟨?_,?_⟩
      ·rw[d4];rw[Int.pow_succ]at hval;simp only[val];exact Mz hval
      ·have h1:=bZ M' i aw;rw[d3,d4,hUt]at h1;have h2:4294967296 ^ i*val (M'.drop i)=4294967296 ^ i*(W-q*V):=by rw[Int.mul_sub];omega
       have h3:=Int.eq_of_mul_eq_mul_left (by have:=cx i;omega) h2;rw[h3,Int.add_mul]at *
       omega
     rw[etest];have small:∀(M':List Int),Dig M'->M'.length=a.length+1->M'.drop (i+n+1)=U.drop (i+n+1)->val (M'.drop i)<4294967296 ^ (n+1):=by
      intro M' d1 d2 d3;have h1:=bZ (M'.drop i) (n+1) ar;rw[List.drop_drop,show i+(n+1)=i+n+1 from by omega,d3,hz]at h1;have h2:=eA ((d1.drop i).take (n+1));rw[List.length_take,List.length_drop,Nat.min_eq_left aw]at h2;rw[h1];simpa using h2
     have mdrop:M.drop (i+n+1)=U.drop (i+n+1):=by
      have:=congrArg (List.drop 1) hMdr;rw[List.drop_drop,List.drop_drop]at this;exact this
     have ipos:=cx i;have modd:∀ z:Int,0<=z % 4294967296/\z % 4294967296<4294967296:=fun z=>⟨Int.emod_nonneg _ aH,Int.emod_lt_of_pos _ aH⟩;refine bi (fun hneg=>?_) (fun hneg=>?_)
     ·have hd:x0-c-bo<0:=by
       rcases Int.lt_or_le (x0-c-bo) 0 with h|h
       ·exact h
       ·rw[if_neg aw]at hneg;simp at hneg
      have hdB : -4294967296<=x0-c-bo:=by
       rcases Int.lt_or_le 0 g with h|h
       ·have:=hcg' h;omega
       ·omega
      obtain⟨M1,hM1⟩:∃ M1,M1=M.set (i+n) ((x0-c-bo) % 4294967296):=⟨_,rfl⟩;have hM1l:M1.length=a.length+1:=by rw[hM1];simp[hMl]
      have hM1d:Dig M1:=by rw[hM1];exact hMd.set (modd _)
      have hM1t:M1.take i=U.take i:=by rw[hM1];exact(gA aw).trans hMt
      have hM1dr:M1.drop (i+n+1)=U.drop (i+n+1):=by rw[hM1];exact(kL aw).trans mdrop
      have hMv':val M1=val U-4294967296 ^ i*(g*V)+4294967296 ^ i*(4294967296 ^ n*4294967296):=by
       rw[hM1,ju hiM,hMin,show(x0-c-bo) % 4294967296=x0-c-bo+4294967296 from by omega];rw[Int.pow_add]at hMv ⊢;exact Py hMv
      have hgq2:g=q+1:=by
       have h1:=bZ M1 i aw;rw[hM1t,hMv',hUt]at h1;have h2:=small M1 hM1d hM1l hM1dr;have h3:4294967296 ^ i*val (M1.drop i)=4294967296 ^ i*(W-g*V+4294967296 ^ n*4294967296):=by rw[Int.mul_add,Int.mul_sub];omega
       have h4:=Int.eq_of_mul_eq_mul_left aw h3;rw[Int.pow_succ]at h2;have h5:q*V<g*V:=aw;have:=Int.lt_of_mul_lt_mul_right h5 aw;omega
      have egq:(g-1) % 18446744073709551616=q:=aw;simp -dsimp only[go_sem,l4,l7,l8,l9,l10,l12,l14,l15,lE,lE36,lE46,egq];refine a8 [(20,22),(188,210)] [] [(33,33)] (fun m τ β ε=>∃ j:Nat,m=n-j/\j<=n/\τ 188=aI j/\∃ c:Int,τ 20=aU c/\0<=c/\c<=1 /\
        ∃ L:List Int,ε 33=⟨1,1,L.map bG,true,true⟩/\L.length=a.length+1/\Dig L/\L.take i=U.take i/\L.drop (i+n)=M1.drop (i+n)/\val L+4294967296 ^ (i+j)*c=val M1+4294967296 ^ i*val (v0.take j))
       (fun e τ β ε=>e = .exit 6/\∃ c:Int,τ 20=aU c/\0<=c/\c<=1 /\
        ∃ L:List Int,ε 33=⟨1,1,L.map bG,true,true⟩/\L.length=a.length+1/\Dig L/\L.take i=U.take i/\L.drop (i+n)=M1.drop (i+n)/\val L+4294967296 ^ (i+n)*c=val M1+4294967296 ^ i*V) n ?_ ?_ ?_
      ·refine⟨0,aw,aw,rfl,0,by simp[bT],aw,aw,M1,?_,hM1l,hM1d,hM1t,rfl,by simp[val]⟩;simp -dsimp only[go_sem,estore,hM1]
      ·rintro m τ3 β3 ε3 π3 mK mKB mKE ⟨j,hj,hjn,m188,c3,m20,hc30,hc31,L,mE,hLl,hLd,hLt,hLdr,hLv⟩;have m7:τ3 7 = .sl 33 1 (a.length+1):=(mK 7 aH).trans l7;have m10:τ3 10=aI i:=(mK 10 aH).trans l10;have m186:τ3 186 = .sl 36 1 n:=mK 186 aH;have m187:τ3 187=aI n:=mK 187 aH;have mE36:ε3 36=⟨1,1,v0.map bG,true,true⟩:=(mKE 36 aH).trans (by simp[bT,lE36]);simp -dsimp only[go_sem,m7,m10,m20,m186,m187,m188,mE,mE36,mK,mKB,mKE];refine bi (fun h=>?_) (fun h=>?_)<;>simp -dsimp only[go_sem,m7,m10,m20,m186,m187,m188,mE,mE36,mK,mKB,mKE]
       ·have hjn':j<n:=aw;have hvj:=hvd.get (i:=j) aw;have hij:i+j<L.length:=aw;have hLij:=hLd.get hij
        repeat(refine And.intro aw ?_)
        refine aV aw ?_;simp -dsimp only[go_sem,m7,m10,m20,m186,m187,m188,mE,mE36,mK,mKB,mKE]
        repeat(refine And.intro aw ?_)
        refine aV hij ?_;simp -dsimp only[go_sem,m7,m10,m20,m186,m187,m188,mE,mE36,mK,mKB,mKE];refine aK (oa _ _ _ hLij hvj aw) ?_;simp -dsimp only[go_sem,m7,m10,m20,m186,m187,m188,mE,mE36,mK,mKB,mKE]
        repeat(refine And.intro aw ?_)
        refine aV hij ?_;simp -dsimp only[go_sem,m7,m10,m20,m186,m187,m188,mE,mE36,mK,mKB,mKE]
        repeat(refine And.intro aw ?_)
        refine again (n-(j+1)) aw ?_;simp -dsimp only[go_sem,m7,m10,m20,m186,m187,m188,mE,mE36,mK,mKB,mKE];refine⟨j+1,rfl,aw,rfl,(L[i+j]+v0[j]+c3)/4294967296,rfl,aw,aw,L.set (i+j) ((L[i+j]+v0[j]+c3) % 4294967296),rfl,by simp[hLl],hLd.set (modd _),(gA aw).trans hLt,(kL aw).trans hLdr,?_⟩;rw[ju hij,bM aw];have e4:(4294967296:Int) ^ (i+(j+1))=4294967296 ^ i*(4294967296 ^ j*4294967296):=by rw[Int.pow_add,Int.pow_succ]
        have e5:(4294967296:Int) ^ (i+j)=4294967296 ^ i*4294967296 ^ j:=Int.pow_add ..;rw[e5]at hLv ⊢;rw[e4];have e6:=Int.emod_add_mul_ediv (L[i+j]+v0[j]+c3) 4294967296;exact PB hLv e6
       ·have hjn':j=n:=aw;subst hjn';refine⟨c3,rfl,hc30,hc31,L,rfl,hLl,hLd,hLt,hLdr,?_⟩;rw[hV];exact hLv
      ·rintro e τ3 β3 ε3 π3 mK mKB mKE ⟨rfl,c3,m20,hc30,hc31,L,mE,hLl,hLd,hLt,hLdr,hLv⟩;have m4:τ3 4 = .sl 46 1 (a.length+1-n):=(mK 4 aH).trans l4;have m7:τ3 7 = .sl 33 1 (a.length+1):=(mK 7 aH).trans l7;have m9:τ3 9=aI n:=(mK 9 aH).trans l9;have m10:τ3 10=aI i:=(mK 10 aH).trans l10;have m12:τ3 12=aW q:=mK 12 aH;have mE46:ε3 46=⟨1,1,(l++r).map bG,true,true⟩:=(mKE 46 aH).trans (by simp[bT,lE46]);have kO3:=Kp.step2 kO2 mK (by intro n;simp[inR];omega) (aA kO2);have kB3:=Kp.step2 kB2 mKB (by simp[inR]) kB2;have kE3:=Kp.step2 kE2 mKE (by intro n;simp[inR];omega) (aA kE2);have hiL:i+n<L.length:=aw;obtain⟨t1,ht1⟩:∃ t,t=L[i+n]:=⟨_,rfl⟩;have hLin:=hLd.get hiL;rw[<-ht1]at hLin;simp -dsimp only[go_sem,m4,m7,m9,m10,m12,m20,mE,mE46]
       repeat(refine And.intro aw ?_)
       refine aV hiL ?_;rw[<-ht1];simp -dsimp only[go_sem,m4,m7,m9,m10,m12,m20,mE,mE46]
       repeat(refine And.intro aw ?_)
       refine aV hiL ?_;simp -dsimp only[go_sem,m4,m7,m9,m10,m12,m20,mE,mE46];have hov:=Int.emod_add_mul_ediv (t1+c3) 4294967296;have hL2l:(L.set (i+n) ((t1+c3) % 4294967296)).length=a.length+1:=by simp[hLl]
       have hL2d:Dig (L.set (i+n) ((t1+c3) % 4294967296)):=hLd.set (modd _);have hL2t:(L.set (i+n) ((t1+c3) % 4294967296)).take i=U.take i:=(gA aw).trans hLt;have hL2dr:(L.set (i+n) ((t1+c3) % 4294967296)).drop (i+n+1)=U.drop (i+n+1):=by
        rw[kL aw];have:=congrArg (List.drop 1) hLdr;rw[List.drop_drop,List.drop_drop,hM1dr]at this;exact this
       have hL2v:val (L.set (i+n) ((t1+c3) % 4294967296))=val U-4294967296 ^ i*(q*V)+4294967296 ^ i*(4294967296 ^ n*4294967296)*(1-(t1+c3)/4294967296):=by
        rw[ju hiL,<-ht1];rw[Int.pow_add]at hLv ⊢;rw[hgq2]at hMv';exact PA hLv hMv' hov
       have hov1:(t1+c3)/4294967296=1:=by
        rcases Int.lt_or_le (t1+c3) 4294967296 with h|h
        ·exfalso;rw[show(t1+c3)/4294967296=0 from by omega,Int.sub_zero,Int.mul_one]at hL2v;have h1:=bZ _ i (show i<=(L.set (i+n) ((t1+c3) % 4294967296)).length by omega);rw[hL2t,hL2v,hUt]at h1;have h2:=small _ hL2d hL2l hL2dr;have h3:4294967296 ^ i*val ((L.set (i+n) ((t1+c3) % 4294967296)).drop i)=4294967296 ^ i*(W-q*V+4294967296 ^ n*4294967296):=by rw[Int.mul_add,Int.mul_sub];omega
         have h4:=Int.eq_of_mul_eq_mul_left aw h3;rw[Int.pow_succ]at h2;omega
        ·omega
       rw[hov1,Int.sub_self,Int.mul_zero,Int.add_zero]at hL2v;obtain⟨d1,d2⟩:=done _ hL2d hL2l hL2t hL2v
       repeat(refine And.intro aw ?_)
       refine aV ar ?_;simp -dsimp only[go_sem,m4,m7,m9,m10,m12,m20,mE,mE46]
       repeat(refine And.intro aw ?_)
       obtain⟨l',y,rfl,hl'⟩:=sY hll;refine again i aw ⟨(aA kO3),kB3,(aA kE3),by simp at hlr;omega,by simp[bT,m10],_,l',q::r,?_,hL2l,hL2d,?_,hl',by simp at hlr ⊢;omega,Dig.cons.2 ⟨⟨hq0,hqB⟩,hrd⟩,d1,d2⟩
       ·simp -dsimp only[go_sem]
       ·simp -dsimp only[go_sem,Int.emod_eq_of_lt hq0 hqB];rw[List.append_assoc,List.singleton_append,kG hl']
     ·have hd:0<=x0-c-bo:=by
       rcases Int.lt_or_le (x0-c-bo) 0 with h|h
       ·rw[if_pos h]at hneg;exact absurd rfl hneg
       ·exact h
      have hMv':val (M.set (i+n) ((x0-c-bo) % 4294967296))=val U-4294967296 ^ i*(g*V):=by
       rw[ju hiM,hMin,Int.emod_eq_of_lt hd aw];rw[Int.pow_add]at hMv ⊢;exact Px hMv
      have hgq2:g=q:=by
       have h1:=bZ (M.set (i+n) ((x0-c-bo) % 4294967296)) i ar;rw[gA aw,hMt,hMv',hUt]at h1;have h2:=bm (Dig.drop (Dig.set hMd (i:=i+n) (d:=(x0-c-bo) % 4294967296) ⟨Int.emod_nonneg _ aH,Int.emod_lt_of_pos _ aH⟩) i);have h3:4294967296 ^ i*val ((M.set (i+n) ((x0-c-bo) % 4294967296)).drop i)=4294967296 ^ i*(W-g*V):=by rw[Int.mul_sub];omega
       have h4:=Int.eq_of_mul_eq_mul_left (by have:=cx i;omega) h3;rw[h4]at h2;have h5:g*V<(q+1)*V:=aw;have:=Int.lt_of_mul_lt_mul_right h5 aw;omega
      obtain⟨d1,d2⟩:=done (M.set (i+n) ((x0-c-bo) % 4294967296)) (hMd.set ⟨Int.emod_nonneg _ aH,Int.emod_lt_of_pos _ aH⟩) (by simp[hMl]) ((gA aw).trans hMt) (by rw[hMv',hgq2]);simp -dsimp only[go_sem,l4,l7,l8,l9,l10,l12,l14,l15,lE,lE36,lE46]
      repeat(refine And.intro aw ?_)
      refine aV ar ?_;simp -dsimp only[go_sem,l4,l7,l8,l9,l10,l12,l14,l15,lE,lE36,lE46]
      repeat(refine And.intro aw ?_)
      obtain⟨l',y,rfl,hl'⟩:=sY hll;have egq:g % 4294967296=q:=by rw[hgq2];exact Int.emod_eq_of_lt hq0 hqB
      refine again i aw ⟨(aA kO2),kB2,(aA kE2),by simp at hlr;omega,by simp[bT,l10],M.set (i+n) ((x0-c-bo) % 4294967296),l',q::r,?_,by simp[hMl],hMd.set ⟨Int.emod_nonneg _ aH,Int.emod_lt_of_pos _ aH⟩,?_,hl',by simp at hlr ⊢;omega,Dig.cons.2 ⟨⟨hq0,hqB⟩,hrd⟩,d1,d2⟩
      ·simp -dsimp only[go_sem,estore]
      ·simp -dsimp only[go_sem,egq];rw[List.append_assoc,List.singleton_append,kG hl']
  ·have:m=0:=aw;subst this;obtain rfl:l=[]:=List.eq_nil_of_length_eq_zero hll;refine⟨hK,hKE,U,r,rfl,hUl,hUd,rfl,by simpa using hlr,hrd,by simpa using hval,by simpa using hlt⟩
 ·rintro e τ β ε π hK hKB hKE ⟨rfl,U,r,hE,hUl,hUd,hE',hrl,hrd,hval,hlt⟩;refine⟨_,bA.refl _,?_⟩;have h4:τ 4 = .sl 46 1 (a.length+1-n):=hK 4 aH;have h6:τ 6=aI k:=hK 6 aH;have h7:τ 7 = .sl 33 1 (a.length+1):=(hK 7 aH).trans (by rw[<-hul];rfl);have h9:τ 9=aI n:=hK 9 aH;have hE226:ε 226=⟨0,0,[],false,false⟩:=hKE 226 aH;simp -dsimp only[go_sem,h4,h6,h7,h9,hE,hE',hE226]
  repeat(refine And.intro aw ?_)
  have hUlt:val U<4294967296 ^ n:=by
   have:=eA (hvd.take n);rw[<-hV,List.length_take,Nat.min_eq_left aw]at this;omega
  have hUz:val (U.drop n)=0:=by
   have h1:=bZ U n aw;have h2:=bm (hUd.take n);have h3:=bm (hUd.drop n);rcases Int.lt_or_le 0 (val (U.drop n))with h|h
   ·have:=Int.mul_le_mul_of_nonneg_left (show 1<=val (U.drop n)by omega) (Int.le_of_lt (cx n));omega
   ·omega
  have hUn:U[n]=0:=by
   have h1:=cd (l:=U) (i:=n) aw;have h2:=bm (hUd.drop (n+1));have h3:=hUd.get (i:=n) aw;omega
  obtain⟨rem,hrem⟩:∃ z,z=val a-val r*val b:=⟨_,rfl⟩;have hUrem:val U=rem*p2:=by
   rw[hrem,Int.sub_mul,Int.mul_assoc,<-hVb,<-huv];omega
  have hU0:U[0] % 2 ^ k=0:=by
   have h1:=cd (l:=U) (i:=0) aw;simp only[Nat.zero_add]at h1;have e0:(4294967296:Int)=2 ^ (32-k)*2 ^ k:=by rw[<-Int.pow_add,show 32-k+k=32 from by omega];rfl
   rw[List.drop_zero,hUrem,hp2e]at h1;have h2:U[0]=2 ^ k*(rem-2 ^ (32-k)*val (U.drop 1)):=by
    have h3:(4294967296:Int)*val (U.drop 1)=2 ^ k*(2 ^ (32-k)*val (U.drop 1)):=by rw[e0];grind
    rw[Int.mul_sub,Int.mul_comm (2 ^ k) rem];omega
   rw[h2];exact Int.mul_emod_right _ _
  have hrem0:0<=rem:=by
   have h1:=bm hUd;rw[hUrem]at h1;rcases Int.lt_or_le rem 0 with h|h
   ·have:=Int.mul_lt_mul_of_pos_right h (show 0<p2 by omega);omega
   ·exact h
  have hremb:rem<val b:=by
   have h1:rem*p2<val b*p2:=aw;exact Int.lt_of_mul_lt_mul_right h1 aw
  have hvbp:0<val b:=aw;have hdiv:val a/val b=val r:=by
   rw[show val a=rem+val b*val r from by rw[hrem,Int.mul_comm (val b)];omega,Int.add_mul_ediv_left _ _ aw,Int.ediv_eq_zero_of_lt hrem0 hremb];omega
  have hmod:val a % val b=rem:=by
   rw[show val a=rem+val b*val r from by rw[hrem,Int.mul_comm (val b)];omega,Int.add_mul_emod_self_left,Int.emod_eq_of_lt hrem0 hremb]
  refine a8 [(23,23),(228,251)] [] [(226,226)] (fun m τ β ε=>∃ i:Nat,m=n-i/\i<=n/\τ 228=aI i /\
    ∃ L:List Int,ε 226=⟨1,1,(L++List.replicate (n-i) 0).map bG,true,true⟩/\L.length=i/\Dig L/\val L*2 ^ k=val (U.take i)-U[0] % 2 ^ k+4294967296 ^ i*(U.getD i 0 % 2 ^ k))
   (fun e τ β ε=>e = .exit 8/\ε 226=⟨1,1,R.map bG,true,true⟩) n ?_ ?_ ?_
  ·refine⟨0,aw,aw,rfl,[],?_,rfl,Dig.nil,?_⟩
   ·simp -dsimp only[go_sem];simp[eV]
   ·have:U.getD 0 0=U[0]:=by simp[List.getD,show 0<U.length by omega]
    rw[this];simp[val];omega
  ·rintro m τ' β' ε' π' gK gKB gKE ⟨i,hm,hi,g228,L,gE,hLl,hLd,hLv⟩;have g5:τ' 5 = .sl 226 1 n:=gK 5 aH;have g6:τ' 6=aI k:=(gK 6 aH).trans h6;have g7:τ' 7 = .sl 33 1 (a.length+1):=(gK 7 aH).trans h7;have g227:τ' 227=aI n:=gK 227 aH;have gE33:ε' 33=⟨1,1,U.map bG,true,true⟩:=(gKE 33 aH).trans (by simp[bT,hE]);simp -dsimp only[go_sem,g5,g6,g7,g227,g228,gE,gE33,gK,gKB,gKE];refine bi (fun h=>?_) (fun h=>?_)<;>simp -dsimp only[go_sem,g5,g6,g7,g227,g228,gE,gE33,gK,gKB,gKE]
   ·have hin:i<n:=aw;have hui:=hUd.get (i:=i) aw;have hui1:=hUd.get (i:=i+1) aw;obtain⟨w,hw⟩:∃ w,n-i=w+1:=⟨n-i-1,aw⟩;refine ap 20 [] false true ?_;simp -dsimp only[go_sem,g5,g6,g7,g227,g228,gE,gE33,gK,gKB,gKE]
    repeat(refine And.intro aw ?_)
    refine aV aw ?_;simp -dsimp only[go_sem,g5,g6,g7,g227,g228,gE,gE33,gK,gKB,gKE];refine rX hk ?_
    repeat(refine And.intro aw ?_)
    refine aV aw ?_;simp -dsimp only[go_sem,g5,g6,g7,g227,g228,gE,gE33,gK,gKB,gKE];refine Fq aw ?_;have ey:U[i+1] % 18446744073709551616*4294967296 % 18446744073709551616=U[i+1]*4294967296:=aw;rw[ey];simp -dsimp only[go_sem,g5,g6,g7,g227,g228,gE,gE33,gK,gKB,gKE];obtain⟨q1,q2,q3⟩:=xq hk hui hui1;obtain⟨d,hd⟩:∃ d:Int,d=((bw (U[i]/2 ^ k) ||| bw (U[i+1]*4294967296/2 ^ k % 4294967296)).toNat:Int):=⟨_,rfl⟩;rw[<-hd]at q1 q2 q3;rw[<-hd]
    repeat(refine And.intro aw ?_)
    refine aV ar ?_;simp -dsimp only[go_sem,g5,g6,g7,g227,g228,gE,gE33,gK,gKB,gKE]
    repeat(refine And.intro aw ?_)
    refine again (n-(i+1)) aw ?_;simp -dsimp only[go_sem,g5,g6,g7,g227,g228,gE,gE33,gK,gKB,gKE];refine⟨i+1,rfl,aw,rfl,L++[d],?_,by simp[hLl],hLd.snoc ⟨q1,q2⟩,?_⟩
    ·rw[hw,show n-(i+1)=w from by omega,List.replicate_succ];subst hLl;simp
    ·have e1:U.getD i 0=U[i]:=by simp[List.getD,show i<U.length by omega]
     have e2:U.getD (i+1) 0=U[i+1]:=by simp[List.getD,show i+1<U.length by omega]
     rw[e1]at hLv;rw[e2,fq,hLl,bM aw,Int.pow_succ];exact Rm hLv q3
   ·have:i=n:=aw;subst this;have e1:U.getD i 0=0:=by rw[<-hUn];simp[List.getD,show i<U.length by omega]
    have h1:=bZ U i aw;rw[hUz,Int.mul_zero,Int.add_zero]at h1;rw[e1,hU0,Int.zero_emod,Int.mul_zero,Int.add_zero,Int.sub_zero,<-h1,hUrem,hp2e]at hLv;have h2:=Int.eq_of_mul_eq_mul_right (Int.ne_of_gt (Int.pow_pos aH)) hLv;have:R=L:=by rw[hR,hmod,<-hn];exact(iO hLd hLl h2).symm
    rw[this];simp
  ·rintro e τ' β' ε' π' gK gKB gKE ⟨rfl,gE⟩;have g4:τ' 4 = .sl 46 1 (a.length+1-n):=(gK 4 aH).trans h4;have g5:τ' 5 = .sl 226 1 n:=gK 5 aH;have gE46:ε' 46=⟨1,1,r.map bG,true,true⟩:=(gKE 46 aH).trans (by simp[bT,hE']);simp -dsimp only[go_sem,g4,g5,gE,gE46];have hQr:Q=r:=by rw[hQ,hdiv,<-hn];exact(iO hrd hrl rfl).symm
   have hRl:R.length=n:=by rw[hR,cP,hn]
   rw[List.take_of_length_le (by simp[hrl]),List.take_of_length_le (by simp[hRl]),hQr]
theorem Ps:(true == true)=true:=(rfl)
theorem Pt:(true == false)=false:=(rfl)
theorem Pu:(false == true)=false:=(rfl)
theorem Pv:(false == false)=true:=(rfl)
attribute [go_sem] Ps Pt Pu Pv
theorem I4 {z:Int} (h:(lb z).length=1):∃ d,lb z=[d]/\0<d/\d<4294967296/\(z.natAbs:Int)=d:=by
 match hl:lb z,h with
 | [d],_ =>
  have h1:=bU z;have h2:=bD z;have h3:=ss z;rw[hl]at h1 h2 h3;have h4:=(Dig.cons.1 h1).1;refine⟨d,rfl,?_,h4.2,by simp[val]at h2;omega⟩;rcases Int.lt_or_le 0 d with h|h
  ·exact h
  ·have:d=0:=aw;subst this;simp[Tr,trim]at h3
theorem LV {a b:Int} (hb:b≠0):val (digs ((lb a).length+1-(lb b).length) (a.natAbs/b.natAbs))=(a.natAbs:Int)/b.natAbs:=by
 have hla:=fX a;have hb1:4294967296 ^ ((lb b).length-1)<=(b.natAbs:Int):=by
  have:=o7 (bU b) (ss b) (by intro e;exact hb (gV.1 (by rw[e];rfl)));rwa [bD]at this
 have h2:(lb b).length≠0:=fun e=>hb (gV.1 e);refine f0 (Int.ediv_nonneg aw aw) ?_;rcases Nat.lt_or_ge (lb a).length (lb b).length with h|h
 ·have h3:=mg (a:=(lb a).length) (b:=(lb b).length-1) aw;rw[Int.ediv_eq_zero_of_lt aw aw];exact cx _
 ·refine Int.ediv_lt_of_lt_mul aw ?_;have h3:(4294967296:Int) ^ (lb a).length=4294967296 ^ ((lb a).length+1-(lb b).length)*4294967296 ^ ((lb b).length-1):=by rw[<-Int.pow_add];congr 1;omega
  have h4:=Int.mul_le_mul_of_nonneg_left hb1 (Int.le_of_lt (cx ((lb a).length+1-(lb b).length)));omega
theorem wK (a b:Int) (hb:b≠0) (hla:(lb a).length<1099511627776) (hlb:(lb b).length<1099511627776):∃ q r:List Int,Dig q/\Dig r/\val q=a.natAbs/b.natAbs/\val r=a.natAbs % b.natAbs/\q.length<1099511627776/\r.length<1099511627776 /\
  Fn Tryz.prog 223 [iL (lb a),iL (lb b)] [iL q,iL r]:=by
 have hb0:0<(b.natAbs:Int):=aw;by_cases h:(a.natAbs:Int)<b.natAbs
 ·refine⟨[],lb a,Dig.nil,bU a,?_,?_,au,hla,?_⟩
  ·rw[Int.ediv_eq_zero_of_lt aw h];rfl
  ·rw[Int.emod_eq_of_lt aw h,bD]
  ·refine aJ (fn:=Tryz.f223) ?_;simp -dsimp only[go_sem];refine aK (gF a b aw) ?_;simp -dsimp only[go_sem];refine bi (fun h'=>?_) (fun h'=>?_)<;>rw[qs]at h'
   ·simp -dsimp only[go_sem];refine co (Bm _ (by simp[lens,bG]) ar) ?_;simp -dsimp only[go_sem];rw[List.take_of_length_le au];rfl
   ·exact absurd h h'
 ·by_cases h1:(lb b).length=1
  ·obtain⟨d,hd,hd0,hd1,hd2⟩:=I4 h1;refine⟨digs (lb a).length (a.natAbs/b.natAbs),[(a.natAbs:Int) % b.natAbs],dw _ _,Dig.cons.2 ⟨⟨Int.emod_nonneg _ aw,?_⟩,Dig.nil⟩,?_,by simp[val],by rw[cP];omega,au,?_⟩
   ·have:=Int.emod_lt_of_pos (a.natAbs:Int) hb0;omega
   ·refine f0 (Int.ediv_nonneg aw aw) ?_;have:=Int.ediv_le_self (a:=(a.natAbs:Int)) b.natAbs aw;have:=fX a;omega
   ·refine aJ (fn:=Tryz.f223) ?_;simp -dsimp only[go_sem];refine aK (gF a b aw) ?_;simp -dsimp only[go_sem];refine bi (fun h'=>?_) (fun h'=>?_)<;>rw[qs]at h'
    ·exact absurd h' h
    ·simp -dsimp only[go_sem,h1];rw[show(decide (((1:Nat):Int)=1))=true from rfl];simp -dsimp only[go_sem,h1];rw[hd];refine⟨aw,cf 0 rfl au ?_⟩;simp -dsimp only[go_sem];refine aK (HT (lb a) d (digs (lb a).length (a.natAbs/b.natAbs)) (a.natAbs % b.natAbs) (bU a) ⟨hd0,hd1⟩ aw (by rw[bD,hd2]) (by rw[bD,hd2])) ?_;simp -dsimp only[go_sem];rfl
  ·have h2:(lb b).length≠0:=fun e=>hb (gV.1 e);have hle:(lb b).length<=(lb a).length:=fI (by have:=fX a;omega);refine⟨digs ((lb a).length+1-(lb b).length) (a.natAbs/b.natAbs),digs (lb b).length (a.natAbs % b.natAbs),dw _ _,dw _ _,?_,?_,by rw[cP];omega,by rw[cP];omega,?_⟩
   ·exact LV hb
   ·refine f0 (Int.emod_nonneg _ aw) ?_;have:=Int.emod_lt_of_pos (a.natAbs:Int) hb0;have:=fX b;omega
   ·refine aJ (fn:=Tryz.f223) ?_;simp -dsimp only[go_sem];refine aK (gF a b aw) ?_;simp -dsimp only[go_sem];refine bi (fun h'=>?_) (fun h'=>?_)<;>rw[qs]at h'
    ·exact absurd h' h
    ·simp -dsimp only[go_sem];rw[show(decide (((lb b).length:Int)=1))=false by simp;omega];simp -dsimp only[go_sem];refine aK (LM (lb a) (lb b) _ _ (bU a) (bU b) (ss b) aw hle aw (by rw[bD,bD]) (by rw[bD,bD])) ?_;simp -dsimp only[go_sem]
theorem Es {a b q r:Int} (hb:b≠0) (h:r+b*q=a) (h0:0<=r) (h1:r<b.natAbs):a/b=q/\a % b=r:=by
 rcases Int.lt_or_lt_of_ne hb with hn|hn
 ·have h2:r+(-b)*(-q)=a:=by rw[Int.neg_mul_neg];exact h
  obtain⟨e1,e2⟩:=(Int.ediv_emod_unique (show 0 < -b by omega)).2 ⟨h2,h0,aw⟩;rw[Int.ediv_neg]at e1;rw[Int.emod_neg]at e2;exact⟨aw,e2⟩
 ·exact(Int.ediv_emod_unique hn).2 ⟨h,h0,aw⟩
theorem ny (l:List Int) (hd:Dig l) (hm:l.length<4611686018427387904):Fn Tryz.prog 182 [iL l,iB false] [iZ (val l)]:=lv false l hd hm
theorem z7 {b:Int} (hb:b≠0):decide (((lb b).length:Int)=0)=false:=by
 have:(lb b).length≠0:=fun e=>hb (gV.1 e);exact aG aw
theorem D5 {b:Int} (hb:b≠0):decide (0<((lb b).length:Int))=true:=by
 have:(lb b).length≠0:=fun e=>hb (gV.1 e);exact aF aw
theorem z6:decide (0<((lb 0).length:Int))=false:=by
 rw[gV.2 rfl];rfl
theorem oK (a b:Int) (hb:b≠0) (hla:(lb a).length<1099511627776) (hlb:(lb b).length<1099511627776):Fn Tryz.prog 209 [iZ a,iZ b] [iZ (a/b),iZ (a % b),iN 0]:=by
 obtain⟨x,y,hx,hy,hxv,hyv,hxl,hyl,hf⟩:=wK a b hb hla hlb;have hb0:0<(b.natAbs:Int):=aw;have hdm:=Int.emod_add_mul_ediv (a.natAbs:Int) b.natAbs;have hy0:=Int.emod_nonneg (a.natAbs:Int) (b:=b.natAbs) aw;have hy1:=Int.emod_lt_of_pos (a.natAbs:Int) hb0;have hq0:=Int.ediv_nonneg (a:=(a.natAbs:Int)) (b:=b.natAbs) aw aw;rw[<-hxv,<-hyv]at hdm;rw[<-hyv]at hy0 hy1;rw[<-hxv]at hq0;have hql:(lb (val x)).length<1099511627777:=by
  have h1:=eA hx;have h2:(lb (val x)).length<=x.length:=fI aw;omega
 have hyl2:(lb (val y)).length<=(lb b).length:=fI (by have:=fX b;omega);obtain⟨q,hq⟩:∃ q,q=val x:=⟨_,rfl⟩;obtain⟨r,hr⟩:∃ r,r=val y:=⟨_,rfl⟩;refine aJ (fn:=Tryz.f209) ?_;simp -dsimp only[go_sem];rw[z7 hb];simp -dsimp only[go_sem];refine aK hf ?_;simp -dsimp only[go_sem];refine aK (ny x hx aw) ?_;simp -dsimp only[go_sem];refine aK (ny y hy aw) ?_;rw[<-hq]at hdm hq0 hql ⊢;rw[<-hr]at hdm hy0 hy1 hyl2 ⊢;have fin:∀{u v:Int},v+b*u=a->0<=v->v<b.natAbs->some [iZ u,iZ v,iN 0]=some [iZ (a/b),iZ (a % b),iN 0]:=fun h1 h2 h3=>by
  obtain⟨e1,e2⟩:=Es hb h1 h2 h3;rw[e1,e2]
 by_cases ha:a<0
 ·rw[show(a.natAbs:Int) = -a from by omega]at hdm;by_cases hr0:r=0
  ·have hlr:decide (0<((lb r).length:Int))=false:=by rw[hr0];exact z6
   by_cases hbn:b<0<;>simp -dsimp only[go_sem,ha,hlr,hbn]
   ·refine bB av 1 2 [] true [.tmp 4] (some (.tmp 10)) av av av av aE ?_;simp -dsimp only[go_sem,ha,hlr,hbn];refine fin ?_ hy0 hy1;rw[show(b.natAbs:Int) = -b from by omega]at hdm
    grind
   ·refine aK (qH q) ?_;simp -dsimp only[go_sem,ha,hlr,hbn];refine bB av 1 2 [] true [.tmp 4] (some (.tmp 10)) av av av av aE ?_;simp -dsimp only[go_sem,ha,hlr,hbn];refine fin ?_ hy0 hy1;rw[show(b.natAbs:Int)=b from by omega]at hdm
    grind
  ·have hlr:decide (0<((lb r).length:Int))=true:=D5 hr0;have hrr:r.natAbs<=b.natAbs:=aw;have hmv:val (digs (lb b).length (b.natAbs-r.natAbs:Int))=b.natAbs-r:=by rw[ke hrr];omega
   by_cases hbn:b<0<;>simp -dsimp only[go_sem,ha,hlr,hbn]
   ·refine ap 3 [] false true ?_;simp -dsimp only[go_sem,ha,hlr,hbn];refine aK (vw 1 aH) ?_;simp -dsimp only[go_sem,ha,hlr,hbn];refine aK (Dt q 1 aw aE) ?_;simp -dsimp only[go_sem,ha,hlr,hbn];refine aK (om b r hrr aw) ?_;simp -dsimp only[go_sem,ha,hlr,hbn];refine aK (ny _ (dw _ _) (by rw[cP];omega)) ?_;rw[hmv];simp -dsimp only[go_sem,ha,hlr,hbn];refine bB av 1 2 [] true [.tmp 4] (some (.tmp 10)) av av av av aE ?_;simp -dsimp only[go_sem,ha,hlr,hbn];refine fin ?_ aw aw;rw[show(b.natAbs:Int) = -b from by omega]at hdm ⊢
    grind
   ·refine ap 3 [] false true ?_;simp -dsimp only[go_sem,ha,hlr,hbn];refine aK (vw 1 aH) ?_;simp -dsimp only[go_sem,ha,hlr,hbn];refine aK (Dt q 1 aw aE) ?_;simp -dsimp only[go_sem,ha,hlr,hbn];refine aK (om b r hrr aw) ?_;simp -dsimp only[go_sem,ha,hlr,hbn];refine aK (ny _ (dw _ _) (by rw[cP];omega)) ?_;rw[hmv];simp -dsimp only[go_sem,ha,hlr,hbn];refine aK (qH _) ?_;simp -dsimp only[go_sem,ha,hlr,hbn];refine bB av 1 2 [] true [.tmp 4] (some (.tmp 10)) av av av av aE ?_;simp -dsimp only[go_sem,ha,hlr,hbn];refine fin ?_ aw aw;rw[show(b.natAbs:Int)=b from by omega]at hdm ⊢
    grind
 ·rw[show(a.natAbs:Int)=a from by omega]at hdm;by_cases hbn:b<0<;>simp -dsimp only[go_sem,ha,hbn]
  ·refine aK (qH q) ?_;simp -dsimp only[go_sem,ha,hbn];refine bB av 1 2 [] true [.tmp 4] (some (.tmp 10)) av av av av aE ?_;simp -dsimp only[go_sem,ha,hbn];refine fin ?_ hy0 hy1;rw[show(b.natAbs:Int) = -b from by omega]at hdm
   grind
  ·refine bB av 1 2 [] true [.tmp 4] (some (.tmp 10)) av av av av aE ?_;simp -dsimp only[go_sem,ha,hbn];refine fin ?_ hy0 hy1;rw[show(b.natAbs:Int)=b from by omega]at hdm
   grind
theorem Jl (x y:Int):Int.gcd y ((x.natAbs:Int) % y.natAbs)=Int.gcd x y:=by
 have h1:((x.natAbs:Int) % y.natAbs)=((x.natAbs % y.natAbs:Nat):Int):=au;rw[h1];simp only[Int.gcd,Int.natAbs_natCast];rw[Nat.gcd_comm y.natAbs,<-Nat.gcd_rec,Nat.gcd_comm]
theorem KB (a b:Int) (hla:(lb a).length<1099511627776) (hlb:(lb b).length<1099511627776):Fn Tryz.prog 208 [iZ a,iZ b] [iZ (Int.gcd a b)]:=by
 refine aJ (fn:=Tryz.f208) ?_;simp -dsimp only[go_sem];refine ap 6 [] false true ?_;simp -dsimp only[go_sem];refine a8 [(5,8),(13,25)] [] [] (fun m τ β ε=>∃ x y:Int,m=y.natAbs/\τ 5=aL (lb x)/\τ 6=aL (lb y)/\(lb x).length<1099511627776/\(lb y).length<1099511627776/\Int.gcd x y=Int.gcd a b)
  (fun e τ β ε=>e = .exit 0/\∃ x:Int,τ 5=aL (lb x)/\(x.natAbs:Int)=Int.gcd a b) b.natAbs ?_ ?_ ?_
 ·exact⟨a,b,rfl,rfl,rfl,hla,hlb,rfl⟩
 ·rintro m τ β ε π hK hKB hKE ⟨x,y,rfl,h5,h6,hxl,hyl,hg⟩;simp -dsimp only[go_sem,h5,h6];by_cases hy:y=0
  ·rw[show decide (0<((lb y).length:Int))=false by rw[hy];exact z6];simp -dsimp only[go_sem,h5,h6,hK,hKB,hKE];refine⟨x,rfl,?_⟩;rw[<-hg,hy];simp
  ·rw[D5 hy];obtain⟨q,r,hq,hr,hqv,hrv,hql,hrl,hf⟩:=wK x y hy hxl hyl;simp -dsimp only[go_sem,h5,h6,hK,hKB,hKE];refine aK hf ?_;simp -dsimp only[go_sem,h5,h6,hK,hKB,hKE];refine aK (ny r hr aw) ?_;rw[hrv];simp -dsimp only[go_sem,h5,h6,hK,hKB,hKE];have h1:=Int.emod_nonneg (x.natAbs:Int) (b:=y.natAbs) aw;have h2:=Int.emod_lt_of_pos (x.natAbs:Int) (b:=y.natAbs) aw;refine again ((x.natAbs:Int) % y.natAbs).natAbs aw ?_;simp -dsimp only[go_sem,h5,h6,hK,hKB,hKE];refine⟨y,(x.natAbs:Int) % y.natAbs,rfl,rfl,rfl,hyl,?_,?_⟩
   ·have:(lb ((x.natAbs:Int) % y.natAbs)).length<=(lb y).length:=fI (by have:=fX y;omega);omega
   ·rw[<-hg,Jl x y]
 ·rintro e τ β ε π hK hKB hKE ⟨rfl,x,h5,hx⟩;have h4:τ 4 = .bp 4 1 0:=hK 4 aH;have hb4:β 4=⟨1,lL false []⟩:=hKB 4 aH;simp -dsimp only[go_sem,h4,h5,hb4];rw[show lb x=lb (Int.gcd a b:Int)by rw[<-hx];simp[lb]];rw[show false=decide ((Int.gcd a b:Int)<0)from(aG aw).symm];rfl
theorem repl0 {α:Type} (a:α):List.replicate 0 a=[]:=(rfl)
theorem arr2 (a b:Nat):(#[a,b]:Array Nat).size=2:=(rfl)
attribute [go_sem] repl0 arr2
theorem lA {P:Program} {kind:FuncId->CK} {c:Code} {Q:bg->St->Prop} {s:St} {τ:Nat->AV} {β:Nat->BX} {ε:Nat->EN} {π:Nat->MP} (hw:bA s ⟨τ,β,ε,π⟩) (h:m6 P kind c Q ⟨τ,β,ε,π⟩ ⟨⟩):m6 P kind c Q s ⟨⟩:=WP.weak hw h
theorem dJ (l:List Int) (neg:Bool) (hd:Dig l) (hm:l.length<1099511627776):Fn Tryz.prog 162 [iL l,iB neg] [iZ (if neg then -val l else val l)]:=by
 refine aJ (fn:=Tryz.f162) ?_;simp -dsimp only[go_sem];refine a8 [(5,5),(8,19)] [] [] (fun n τ β _=>n<=l.length/\trim l=trim (l.take n)/\τ 5=aI n)
  (fun e τ β _=>e = .exit 0/\τ 5=aI (trim l).length/\trim l=l.take (trim l).length/\(trim l).length<=l.length) l.length ?_ ?_ ?_
 ·exact⟨ay _,by rw[List.take_length],rfl⟩
 ·rintro n τ β ε π hK hKB hKE ⟨h1,h2,h5⟩;have h0:τ 0=aL l:=hK 0 aH;by_cases hn:0<(n:Int)
  ·have hs:l.take n=l.take (n-1)++[l[n-1]]:=by
    conv=>lhs;rw[show n=n-1+1 from by omega]
    rw[tO aw]
   simp -dsimp only[go_sem,h0,h5,hn]
   repeat(refine And.intro aw ?_)
   refine cf (n-1) aw aw ?_;simp -dsimp only[go_sem,h0,h5,hn];refine bi (fun hz=>?_) (fun hz=>?_)<;>simp -dsimp only[go_sem,h0,h5,hn,hK,hKB,hKE]
   ·repeat(refine And.intro aw ?_)
    refine again (n-1) aw ?_;simp -dsimp only[go_sem,h0,h5,hn,hK,hKB,hKE];refine⟨aw,?_,ja aw⟩;rw[h2,hs,hz,gJ]
   ·have ht:trim l=l.take n:=by rw[h2,hs];exact qR _ _ hz
    have hl:(trim l).length=n:=by rw[ht];simp;omega
    rw[hl];exact⟨rfl,ht,h1⟩
  ·have hn0:n=0:=aw;subst hn0;simp -dsimp only[go_sem,h0,h5,hn,hK,hKB,hKE];have ht:trim l=[]:=by rw[h2];rfl
   rw[ht];exact⟨rfl,rfl,au⟩
 ·rintro e τ β ε π hK hKB hKE ⟨rfl,h5,ht,hl⟩;have h0:τ 0=aL l:=hK 0 aH;have h1:τ 1=aB neg:=hK 1 aH;have h4:τ 4 = .bp 4 1 0:=hK 4 aH;have hb4:β 4=⟨1,lL false []⟩:=hKB 4 aH;have he29:ε 29=⟨0,0,[],false,false⟩:=hKE 29 aH;have key:=NQ (neg:=neg) hd;have e1:List.take (trim l).length (List.map bG l)=(trim l).map bG:=by rw[<-List.map_take,<-ht]
  have e2:min (trim l).length l.length=(trim l).length:=aw;cases neg with
  | true =>
   simp -dsimp only[go_sem,h0,h1,h4,h5,hb4,he29,e1,e2];refine⟨hl,aw,?_⟩;rw[List.take_of_length_le au];have e3:decide (0<((trim l).length:Int))=(true && decide (0<(trim l).length)):=au;rw[e3];exact congrArg (fun c=>some [IV.g c]) key
  | false =>
   simp -dsimp only[go_sem,h0,h1,h4,h5,hb4,he29,e1,e2];refine⟨hl,aw,?_⟩;rw[List.take_of_length_le au];exact congrArg (fun c=>some [IV.g c]) key
theorem yx (n:Int) (h : -9223372036854775808<=n/\n<9223372036854775808):Fn Tryz.prog 121 [iN n] [iZ n]:=by
 refine aJ (fn:=Tryz.f121) ?_;simp -dsimp only[go_sem];have key:∀(neg:Bool) (m:Int),0<=m->m<18446744073709551616->Fn Tryz.prog 162 [iL [m % 4294967296,m/4294967296 % 4294967296],iB neg] [iZ (if neg then -m else m)]:=by
  intro neg m h0 h1;have hv:val [m % 4294967296,m/4294967296 % 4294967296]=m:=by simp only[val];omega
  have:=dJ [m % 4294967296,m/4294967296 % 4294967296] neg (Dig.cons.2 ⟨aw,Dig.cons.2 ⟨aw,Dig.nil⟩⟩) au;rwa [hv]at this
 refine bi (fun h'=>?_) (fun h'=>?_)<;>simp -dsimp only[go_sem,h']
 ·refine aK (key true ((0-n % 18446744073709551616) % 18446744073709551616) aw aw) ?_;simp -dsimp only[go_sem];refine kJ ?_;omega
 ·refine aK (key false (n % 18446744073709551616) aw aw) ?_;simp -dsimp only[go_sem];refine kJ ?_;omega
theorem km (z:Int):Fn Tryz.prog 142 [iZ z] [iN z.sign]:=by
 refine aJ (fn:=Tryz.f142) ?_;by_cases h0:z=0
 ·subst h0;simp -dsimp only[go_sem,gV.2 rfl];rw[show(decide (((0:Nat):Int)=0))=true from rfl];simp -dsimp only[go_sem];rfl
 ·simp -dsimp only[go_sem];rw[z7 h0];by_cases h:z<0
  ·simp -dsimp only[go_sem,h];rw[Int.sign_eq_neg_one_of_neg h]
  ·simp -dsimp only[go_sem,h];rw[Int.sign_eq_one_of_pos aw]
theorem oG (z:Int) (hl:(lb z).length<1099511627776):Fn Tryz.prog 201 [iZ z] [iZ (-z)]:=by
 refine aJ (fn:=Tryz.f201) ?_;simp -dsimp only[go_sem];refine aK (dJ (lb z) (!decide (z<0)) (bU z) hl) ?_;simp -dsimp only[go_sem];refine kJ ?_;rw[bD];by_cases h:z<0<;>simp[h]<;>omega
theorem s6 (a b:Int) (hl:(lb a).length<1099511627776):Fn Tryz.prog 179 [iL (lb a),iL (lb b)] [iB (decide ((a.natAbs:Int)<b.natAbs))]:=by
 have ha:=bU a;have hb:=bU b;have hva:=bD a;have hvb:=bD b;rw[<-hva,<-hvb];refine aJ (fn:=Tryz.f179) ?_;by_cases hlen:(lb a).length=(lb b).length
 ·have hd:decide (((lb a).length:Int)=((lb b).length:Int))=true:=aF aw;simp -dsimp only[go_sem,hd];refine⟨aw,?_⟩;refine a8 [(4,5),(19,40)] [] [] (fun n τ β _=>n<=(lb a).length/\(lb a).drop n=(lb b).drop n/\τ 5=aI ((n:Int)-1))
   (fun e τ β _=>(e = .exit 0/\lb a=lb b)\/(e = .ret/\τ 4=aB (decide (val (lb a)<val (lb b))))) (lb a).length ?_ ?_ ?_
  ·refine⟨ay _,?_,by simp[bT]⟩;rw[List.drop_of_length_le (ay _),List.drop_of_length_le aw]
  ·rintro n τ β ε π hK hKB hKE ⟨h1,h2,h5⟩;have h0:τ 0=aL (lb a):=hK 0 aH;have h1':τ 1=aL (lb b):=hK 1 aH;simp -dsimp only[go_sem,h0,h1',h5];refine bi (fun h=>?_) (fun h=>?_)<;>simp -dsimp only[go_sem,h0,h1',h5,hK,hKB,hKE]
   ·have d1:(lb a).drop (n-1)=(lb a)[n-1]::(lb a).drop n:=by rw[List.drop_eq_getElem_cons aw];congr 2;omega
    have d2:(lb b).drop (n-1)=(lb b)[n-1]::(lb b).drop n:=by rw[List.drop_eq_getElem_cons aw];congr 2;omega
    refine ap 9 [] false true ?_;simp -dsimp only[go_sem,h0,h1',h5,hK,hKB,hKE]
    repeat(refine And.intro aw ?_)
    refine cf (n-1) aw aw ?_;simp -dsimp only[go_sem,h0,h1',h5,hK,hKB,hKE]
    repeat(refine And.intro aw ?_)
    refine cf (n-1) aw aw ?_;simp -dsimp only[go_sem,h0,h1',h5,hK,hKB,hKE];by_cases he:(lb a)[n-1]=(lb b)[n-1]
    ·simp -dsimp only[go_sem,h0,h1',h5,hK,hKB,hKE,he]
     repeat(refine And.intro aw ?_)
     refine again (n-1) aw ?_;simp -dsimp only[go_sem,h0,h1',h5,hK,hKB,hKE];exact⟨aw,by rw[d1,d2,h2,he],ja aw⟩
    ·simp -dsimp only[go_sem,h0,h1',h5,hK,hKB,hKE,he];refine ap 10 [] false true ?_;simp -dsimp only[go_sem,h0,h1',h5,hK,hKB,hKE]
     repeat(refine And.intro aw ?_)
     refine cf (n-1) aw aw ?_;simp -dsimp only[go_sem,h0,h1',h5,hK,hKB,hKE]
     repeat(refine And.intro aw ?_)
     refine cf (n-1) aw aw ?_;simp -dsimp only[go_sem,h0,h1',h5,hK,hKB,hKE];have hn:n-1+1=n:=aw;refine congrArg aB ?_;rw[decide_eq_decide];rcases Int.lt_or_lt_of_ne he with h6|h6
     ·have:=yf ha hb (i:=n-1) aw aw (by rw[hn];exact h2) h6;exact⟨fun _=>this,fun _=>h6⟩
     ·have:=yf hb ha (i:=n-1) aw aw (by rw[hn];exact h2.symm) h6;exact⟨fun h=>by omega,fun h=>by omega⟩
   ·have:n=0:=aw;subst this;simpa using h2
  ·rintro e τ β ε π hK hKB hKE (⟨rfl,h⟩|⟨rfl,h⟩)
   ·simp -dsimp only[go_sem];rw[h];simp
   ·simp -dsimp only[go_sem,h]
 ·have hd:decide (((lb a).length:Int)=((lb b).length:Int))=false:=aG aw;simp -dsimp only[go_sem,hd];refine congrArg (fun x=>some [iB x]) ?_;rw[decide_eq_decide];rcases Nat.lt_or_gt_of_ne hlen with h1|h1
  ·have:=th ha hb (ss b) h1;exact⟨fun _=>this,fun _=>by omega⟩
  ·have:=th hb ha (ss a) h1;exact⟨fun h=>by omega,fun h=>by omega⟩
theorem AY (a b:Int) (hla:(lb a).length<1099511627776) (hlb:(lb b).length<1099511627776):Fn Tryz.prog 164 [iZ a,iZ b] [iB (decide (a=b))]:=by
 refine aJ (fn:=Tryz.f164) ?_;have key:∀{x:Bool},x=decide (a=b)->some [iB x]=some [iB (decide (a=b))]:=fun h=>by rw[h]
 by_cases hs:(a<0)↔(b<0)
 ·have hd:(decide (a<0) == decide (b<0))=true:=by simp[hs]
  simp -dsimp only[go_sem,hd];refine aK (s6 a b hla) ?_;by_cases h1:(a.natAbs:Int)<b.natAbs
  ·simp -dsimp only[go_sem,h1];exact key (by rw[eq_comm,decide_eq_false_iff_not];omega)
  ·simp -dsimp only[go_sem,h1];refine aK (s6 b a hlb) ?_;by_cases h2:(b.natAbs:Int)<a.natAbs
   ·simp -dsimp only[go_sem,h2];exact key (by rw[eq_comm,decide_eq_false_iff_not];omega)
   ·simp -dsimp only[go_sem,h2];exact key (by rw[eq_comm,decide_eq_true_iff];omega)
 ·have hd:(decide (a<0) == decide (b<0))=false:=by simp;omega
  simp -dsimp only[go_sem,hd];exact key (by rw[eq_comm,decide_eq_false_iff_not];rintro rfl;simp at hs)
theorem xW {z:Int} (h:z≠0) (hi:(lb z).length-1<(lb z).length):(lb z)[(lb z).length-1]≠0:=by
 have h1:=ss z;intro h0;have hne:lb z≠[]:=by intro e;exact h (gV.1 (by rw[e];rfl))
 have h2:lb z=(lb z).take ((lb z).length-1)++[0]:=by
  rw[<-h0,List.take_append_getElem,List.take_of_length_le aw]
 have h3:=gJ ((lb z).take ((lb z).length-1));rw[<-h2]at h3;have h4:=DA ((lb z).take ((lb z).length-1));rw[<-h3]at h4;unfold Tr at h1;rw[h1]at h4;simp only[List.length_take]at h4;omega
end Go.AM
