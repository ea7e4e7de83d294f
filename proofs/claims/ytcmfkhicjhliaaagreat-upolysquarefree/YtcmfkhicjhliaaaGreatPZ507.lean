/- Lemmas, part 8 of 23. No condition. -/
import Derived.Test.YtcmfkhicjhliaaaGreatPZ506
set_option maxRecDepth 65536
set_option linter.unusedSimpArgs false
set_option linter.unusedVariables false
set_option linter.unusedSectionVars false
namespace Go.AM
open Go.Proofs
abbrev iU (n:Int):IV := .c (.v (.int .u32 n))
abbrev iN (n:Int):IV := .c (.v (.int .i64 n))
abbrev iB (b:Bool):IV := .c (.v (.bool b))
abbrev iL (l:List Int):IV := .c (.lst (l.map bG))
abbrev aU (n:Int):AV := .i (.c (.v (.int .u32 n)))
abbrev aW (n:Int):AV := .i (.c (.v (.int .u64 n)))
theorem Rs {a b:Int} (h:a=b):aU a=aU b:=by rw[h]
theorem wW {a b:Int} (h:a=b):aW a=aW b:=by rw[h]
theorem Ly (n:Nat):(0<=(n:Int))=True:=au
attribute [go_sem] Ly Int.toNat_natCast
attribute [go_sem ↓ 10000] yY
theorem oa (x y c:Int) (hx:0<=x/\x<4294967296) (hy:0<=y/\y<4294967296) (hc:0<=c/\c<4294967296) :
  Fn Tryz.prog 224 [iU x,iU y,iU c] [iU ((x+y+c) % 4294967296),iU ((x+y+c)/4294967296)]:=by
 refine aJ (fn:=Tryz.f224) ?_;simp -dsimp only[go_sem];have e1:((x % 18446744073709551616+y % 18446744073709551616) % 18446744073709551616+c % 18446744073709551616) % 18446744073709551616=x+y+c:=aw;simp only[e1];have e2:(x+y+c)/4294967296 % 4294967296=(x+y+c)/4294967296:=aw;simp only[e2]
def digs:Nat->Int->List Int
 | 0,_=>[]
 | k+1,n=>n % 4294967296::digs k (n/4294967296)
theorem cP:∀(k:Nat) (n:Int),(digs k n).length=k
 | 0,_=>rfl
 | k+1,n=>by simp[digs,cP k]
theorem dw:∀(k:Nat) (n:Int),Dig (digs k n)
 | 0,_=>Dig.nil
 | k+1,n=>Dig.cons.2 ⟨aw,dw k _⟩
theorem Aw:∀(l:List Int),Dig l->l=digs l.length (val l)
 | [],_=>rfl
 | d::l,h=>by
  have h':=Dig.cons.1 h;simp only[List.length_cons,digs,val];rw[show(d+4294967296*val l) % 4294967296=d from by omega,show(d+4294967296*val l)/4294967296=val l from by omega,<-Aw l h'.2]
theorem iO {l:List Int} {k:Nat} {n:Int} (h:Dig l) (hl:l.length=k) (hv:val l=n):l=digs k n:=by
 subst hl hv;exact Aw l h
theorem f0 {k:Nat} {n:Int} (h0:0<=n) (h:n<4294967296 ^ k):val (digs k n)=n:=by
 induction k generalizing n with
 | zero=>simp at h;simp[digs,val];omega
 | succ k ih =>
  simp only[digs,val];rw[Int.pow_succ]at h;rw[ih aw aw];omega
theorem eV (n:Nat):List.replicate n [C.v (.int .u32 0)]=(List.replicate n 0).map bG:=by simp[bG]
theorem bM {l:List Int} {i:Nat} (h:i<l.length):val (l.take (i+1))=val (l.take i)+4294967296 ^ i*l[i]:=by
 rw[aq h,it];simp[val,Nat.min_eq_left (Nat.le_of_lt h)]
theorem Dig.snoc {l:List Int} {d:Int} (h:Dig l) (hd:0<=d/\d<4294967296):Dig (l++[d]):=h.append (Dig.cons.2 ⟨hd,Dig.nil⟩)
theorem fq (l:List Int) (d:Int):val (l++[d])=val l+4294967296 ^ l.length*d:=by rw[it];simp[val]
theorem Jz:fE Tryz.prog 90=some ⟨false,1,4,some [C.v (.int .u32 0)],none,none,[]⟩:=av
theorem Lr (a b R:List Int) (ha:Dig a) (hb:Dig b) (hla:a.length<17592186044416) (hlb:b.length<17592186044416) (hR:R=digs (max a.length b.length+1) (val a+val b)) :
  Fn Tryz.prog 210 [iL a,iL b] [iL R]:=by
 refine aJ (fn:=Tryz.f210) ?_;simp -dsimp only[go_sem];refine bi (fun h=>?_) (fun h=>?_)<;>simp -dsimp only[go_sem]
 ·obtain⟨x,y,ex,ey⟩:∃ x y,x=b/\y=a:=⟨_,_,rfl,rfl⟩;subst ex ey;have hx:Dig x := ‹_›;have hy:Dig y := ‹_›;have hle:y.length<=x.length:=aw;have hlx:x.length<17592186044416 := ‹_›
  replace hR:R=digs (x.length+1) (val x+val y):=by rw[hR,Nat.max_eq_right hle,Int.add_comm]
  clear h ha hb hla hlb;refine⟨aw,aw,aw,aw,?_⟩;refine nf (t:=19) (g:=1) (len:=(↑x.length+1:Int).toNat) (xs:=x.map bG) rfl rfl aH rfl rfl Jz rfl (by simp[bG]) ?_;simp -dsimp only[go_sem];have e1:min x.length (↑x.length+1:Int).toNat=x.length:=aw;have e2:(↑x.length+1:Int).toNat=x.length+1:=aw;refine jX (fun n τ β ε=>∃ i:Nat,n=x.length-i/\i<=x.length/\τ 0=aL x/\τ 1=aL y/\τ 5 = .sl 19 1 (x.length+1)/\τ 25=aI i/\τ 24=aI x.length /\
    ∃(l r:List Int) (c:Int),ε 19=⟨1,1,(l++r).map bG,true,true⟩/\l.length=i/\(l++r).length=x.length+1/\Dig l/\0<=c/\c<=1/\τ 6=aU c/\val l+4294967296 ^ i*c=val (x.take i)+val (y.take i))
   (fun e τ β ε=>e = .exit 0/\τ 0=aL x/\τ 5 = .sl 19 1 (x.length+1) /\
    ∃(l:List Int) (c d:Int),ε 19=⟨1,1,(l++[d]).map bG,true,true⟩/\l.length=x.length/\Dig l/\0<=c/\c<=1/\τ 6=aU c/\val l+4294967296 ^ x.length*c=val x+val y) x.length ?_ ?_ ?_
  ·refine⟨0,aw,aw,?_⟩;simp -dsimp only[go_sem,e1,e2];refine⟨rfl,[],x++(List.replicate (x.length+1) 0).drop x.length,0,?_,rfl,au,Dig.nil,aw,aw,rfl,by simp[val]⟩;have e3:min x.length (x.length+1)=x.length:=aw;simp[e3,eV];exact List.take_of_length_le au
  ·rintro n τ β ε π ⟨i,hn,hi,h0,h1,h5,h25,h24,l,r,c,hE,hl,hlr,hdl,hc0,hc1,h6,hv⟩;have key:∀ y0:Int,0<=y0->y0<4294967296->∀(h:i<x.length),val (y.take (i+1))=val (y.take i)+4294967296 ^ i*y0 ->
     val (l++[(x[i]+y0+c) % 4294967296])+4294967296 ^ (i+1)*((x[i]+y0+c)/4294967296)=val (x.take (i+1))+val (y.take (i+1)):=by
    intro y0 hy0 hy1 h hyv;rw[hyv,bM h,fq,hl];have e3:(4294967296:Int) ^ i*((x[i]+y0+c) % 4294967296)+4294967296 ^ (i+1)*((x[i]+y0+c)/4294967296)=4294967296 ^ i*(x[i]+y0+c):=by
     rw[Int.pow_succ,Int.mul_assoc,<-Int.mul_add];congr 1;omega
    have e4:(4294967296:Int) ^ i*(x[i]+y0+c)=4294967296 ^ i*x[i]+4294967296 ^ i*y0+4294967296 ^ i*c:=by rw[Int.mul_add,Int.mul_add]
    omega
   simp -dsimp only[go_sem,h0,h1,h5,h25,h24,h6,hE];refine bi (fun h=>?_) (fun h=>?_)<;>simp -dsimp only[go_sem,h0,h1,h5,h25,h24,h6,hE]
   ·have hix:i<x.length:=aw;obtain⟨d,r,rfl⟩:∃ d r',r=d::r':=by
     cases r with
     | nil=>simp at hlr;omega
     | cons d r=>exact⟨d,r,rfl⟩
    have hxi:=hx.get hix;refine bi (fun h'=>?_) (fun h'=>?_)<;>simp -dsimp only[go_sem,h0,h1,h5,h25,h24,h6,hE]
    ·have hiy:i<y.length:=aw;have hyi:=hy.get hiy;refine aV hiy ?_;simp -dsimp only[go_sem,h0,h1,h5,h25,h24,h6,hE];refine aV hix ?_;simp -dsimp only[go_sem,h0,h1,h5,h25,h24,h6,hE];refine aK (oa _ _ _ hxi hyi aw) ?_;simp -dsimp only[go_sem,h0,h1,h5,h25,h24,h6,hE];refine⟨aw,aV aw ?_⟩;simp -dsimp only[go_sem,h0,h1,h5,h25,h24,h6,hE];refine⟨aw,again (x.length-(i+1)) aw ⟨i+1,rfl,aw,?_⟩⟩;simp -dsimp only[go_sem,h0,h1,h5,h25,h24,h6,hE];refine⟨ja aw,l++[(x[i]+y[i]+c) % 4294967296],r,(x[i]+y[i]+c)/4294967296,?_,by simp[hl],by simp at hlr ⊢;omega,hdl.snoc aw,aw,aw,rfl,?_⟩
     ·subst hl;simp
     ·exact key _ hyi.1 hyi.2 hix (bM hiy)
    ·refine aV hix ?_;simp -dsimp only[go_sem,h0,h1,h5,h25,h24,h6,hE];refine aK (oa _ _ _ hxi aw aw) ?_;simp -dsimp only[go_sem,h0,h1,h5,h25,h24,h6,hE];refine⟨aw,aV aw ?_⟩;simp -dsimp only[go_sem,h0,h1,h5,h25,h24,h6,hE];refine⟨aw,again (x.length-(i+1)) aw ⟨i+1,rfl,aw,?_⟩⟩;simp -dsimp only[go_sem,h0,h1,h5,h25,h24,h6,hE];refine⟨ja aw,l++[(x[i]+0+c) % 4294967296],r,(x[i]+0+c)/4294967296,?_,by simp[hl],by simp at hlr ⊢;omega,hdl.snoc aw,aw,aw,rfl,?_⟩
     ·subst hl;simp
     ·refine key 0 aw aw hix ?_;rw[List.take_of_length_le aw,List.take_of_length_le aw];simp
   ·have hix:i=x.length:=aw;subst hix;rw[List.take_length,List.take_of_length_le aw]at hv;obtain⟨d,rfl⟩:∃ d,r=[d]:=by
     match r,hlr with
     | [],hlr=>simp at hlr;omega
     | [d],_=>exact⟨d,rfl⟩
     | d::e::r,hlr=>simp at hlr;omega
    exact⟨l,c,d,rfl,hl,hdl,hc0,hc1,rfl,hv⟩
  ·rintro e τ β ε π ⟨rfl,h0,h5,l,c,d,hE,hl,hdl,hc0,hc1,h6,hv⟩;simp -dsimp only[go_sem,h0,h5,h6,hE];refine⟨aw,aV ar ?_⟩;simp -dsimp only[go_sem,h0,h5,h6,hE];have hR':R=l++[c]:=by
    rw[hR];refine(iO (hdl.snoc aw) (by simp[hl]) ?_).symm;rw[fq,hl];exact hv
   subst hR';simp[hl];exact List.take_of_length_le (by simp[hl])
 ·obtain⟨x,y,ex,ey⟩:∃ x y,x=a/\y=b:=⟨_,_,rfl,rfl⟩;subst ex ey;have hx:Dig x := ‹_›;have hy:Dig y := ‹_›;have hle:y.length<=x.length:=aw;have hlx:x.length<17592186044416 := ‹_›
  replace hR:R=digs (x.length+1) (val x+val y):=by rw[hR,Nat.max_eq_left hle]
  clear h ha hb hla hlb;refine⟨aw,aw,aw,aw,?_⟩;refine nf (t:=19) (g:=1) (len:=(↑x.length+1:Int).toNat) (xs:=x.map bG) rfl rfl aH rfl rfl Jz rfl (by simp[bG]) ?_;simp -dsimp only[go_sem];have e1:min x.length (↑x.length+1:Int).toNat=x.length:=aw;have e2:(↑x.length+1:Int).toNat=x.length+1:=aw;refine jX (fun n τ β ε=>∃ i:Nat,n=x.length-i/\i<=x.length/\τ 0=aL x/\τ 1=aL y/\τ 5 = .sl 19 1 (x.length+1)/\τ 25=aI i/\τ 24=aI x.length /\
    ∃(l r:List Int) (c:Int),ε 19=⟨1,1,(l++r).map bG,true,true⟩/\l.length=i/\(l++r).length=x.length+1/\Dig l/\0<=c/\c<=1/\τ 6=aU c/\val l+4294967296 ^ i*c=val (x.take i)+val (y.take i))
   (fun e τ β ε=>e = .exit 0/\τ 0=aL x/\τ 5 = .sl 19 1 (x.length+1) /\
    ∃(l:List Int) (c d:Int),ε 19=⟨1,1,(l++[d]).map bG,true,true⟩/\l.length=x.length/\Dig l/\0<=c/\c<=1/\τ 6=aU c/\val l+4294967296 ^ x.length*c=val x+val y) x.length ?_ ?_ ?_
  ·refine⟨0,aw,aw,?_⟩;simp -dsimp only[go_sem,e1,e2];refine⟨rfl,[],x++(List.replicate (x.length+1) 0).drop x.length,0,?_,rfl,au,Dig.nil,aw,aw,rfl,by simp[val]⟩;have e3:min x.length (x.length+1)=x.length:=aw;simp[e3,eV];exact List.take_of_length_le au
  ·rintro n τ β ε π ⟨i,hn,hi,h0,h1,h5,h25,h24,l,r,c,hE,hl,hlr,hdl,hc0,hc1,h6,hv⟩;have key:∀ y0:Int,0<=y0->y0<4294967296->∀(h:i<x.length),val (y.take (i+1))=val (y.take i)+4294967296 ^ i*y0 ->
     val (l++[(x[i]+y0+c) % 4294967296])+4294967296 ^ (i+1)*((x[i]+y0+c)/4294967296)=val (x.take (i+1))+val (y.take (i+1)):=by
    intro y0 hy0 hy1 h hyv;rw[hyv,bM h,fq,hl];have e3:(4294967296:Int) ^ i*((x[i]+y0+c) % 4294967296)+4294967296 ^ (i+1)*((x[i]+y0+c)/4294967296)=4294967296 ^ i*(x[i]+y0+c):=by
     rw[Int.pow_succ,Int.mul_assoc,<-Int.mul_add];congr 1;omega
    have e4:(4294967296:Int) ^ i*(x[i]+y0+c)=4294967296 ^ i*x[i]+4294967296 ^ i*y0+4294967296 ^ i*c:=by rw[Int.mul_add,Int.mul_add]
    omega
   simp -dsimp only[go_sem,h0,h1,h5,h25,h24,h6,hE];refine bi (fun h=>?_) (fun h=>?_)<;>simp -dsimp only[go_sem,h0,h1,h5,h25,h24,h6,hE]
   ·have hix:i<x.length:=aw;obtain⟨d,r,rfl⟩:∃ d r',r=d::r':=by
     cases r with
     | nil=>simp at hlr;omega
     | cons d r=>exact⟨d,r,rfl⟩
    have hxi:=hx.get hix;refine bi (fun h'=>?_) (fun h'=>?_)<;>simp -dsimp only[go_sem,h0,h1,h5,h25,h24,h6,hE]
    ·have hiy:i<y.length:=aw;have hyi:=hy.get hiy;refine aV hiy ?_;simp -dsimp only[go_sem,h0,h1,h5,h25,h24,h6,hE];refine aV hix ?_;simp -dsimp only[go_sem,h0,h1,h5,h25,h24,h6,hE];refine aK (oa _ _ _ hxi hyi aw) ?_;simp -dsimp only[go_sem,h0,h1,h5,h25,h24,h6,hE];refine⟨aw,aV aw ?_⟩;simp -dsimp only[go_sem,h0,h1,h5,h25,h24,h6,hE];refine⟨aw,again (x.length-(i+1)) aw ⟨i+1,rfl,aw,?_⟩⟩;simp -dsimp only[go_sem,h0,h1,h5,h25,h24,h6,hE];refine⟨ja aw,l++[(x[i]+y[i]+c) % 4294967296],r,(x[i]+y[i]+c)/4294967296,?_,by simp[hl],by simp at hlr ⊢;omega,hdl.snoc aw,aw,aw,rfl,?_⟩
     ·subst hl;simp
     ·exact key _ hyi.1 hyi.2 hix (bM hiy)
    ·refine aV hix ?_;simp -dsimp only[go_sem,h0,h1,h5,h25,h24,h6,hE];refine aK (oa _ _ _ hxi aw aw) ?_;simp -dsimp only[go_sem,h0,h1,h5,h25,h24,h6,hE];refine⟨aw,aV aw ?_⟩;simp -dsimp only[go_sem,h0,h1,h5,h25,h24,h6,hE];refine⟨aw,again (x.length-(i+1)) aw ⟨i+1,rfl,aw,?_⟩⟩;simp -dsimp only[go_sem,h0,h1,h5,h25,h24,h6,hE];refine⟨ja aw,l++[(x[i]+0+c) % 4294967296],r,(x[i]+0+c)/4294967296,?_,by simp[hl],by simp at hlr ⊢;omega,hdl.snoc aw,aw,aw,rfl,?_⟩
     ·subst hl;simp
     ·refine key 0 aw aw hix ?_;rw[List.take_of_length_le aw,List.take_of_length_le aw];simp
   ·have hix:i=x.length:=aw;subst hix;rw[List.take_length,List.take_of_length_le aw]at hv;obtain⟨d,rfl⟩:∃ d,r=[d]:=by
     match r,hlr with
     | [],hlr=>simp at hlr;omega
     | [d],_=>exact⟨d,rfl⟩
     | d::e::r,hlr=>simp at hlr;omega
    exact⟨l,c,d,rfl,hl,hdl,hc0,hc1,rfl,hv⟩
  ·rintro e τ β ε π ⟨rfl,h0,h5,l,c,d,hE,hl,hdl,hc0,hc1,h6,hv⟩;simp -dsimp only[go_sem,h0,h5,h6,hE];refine⟨aw,aV ar ?_⟩;simp -dsimp only[go_sem,h0,h5,h6,hE];have hR':R=l++[c]:=by
    rw[hR];refine(iO (hdl.snoc aw) (by simp[hl]) ?_).symm;rw[fq,hl];exact hv
   subst hR';simp[hl];exact List.take_of_length_le (by simp[hl])
def bw (n:Int):BitVec 32:=BitVec.ofInt 32 n
theorem JP (v:BitVec 32):bw (v.toNat:Int)=v:=by
 unfold bw;apply BitVec.eq_of_toNat_eq;rw[BitVec.toNat_ofInt];have:=v.isLt;omega
theorem yh {x:Int} (h:0<=x/\x<4294967296):(bw x).msb=decide (2147483648<=x):=by
 rw[BitVec.msb_eq_decide];unfold bw;rw[BitVec.toNat_ofInt];simp;omega
theorem jv (v:BitVec 32):(v.toNat:Int) % 4294967296=v.toNat:=by
 have:=v.isLt;omega
theorem rW (P:Program) (n:Int) (K:Value->Prop):K (.int .u32 (bw 4294967295 ^^^ bw n).toNat)->wUn P .xor (.int .u32 n) K:=by
 intro h;refine⟨_,fun w=>?_,?_,h⟩
 ·simp[Op.unary,Op.intBits,IntKind.signed,IntKind.max,IntKind.bits,bw];rw[m5];exact jv _
 ·rfl
theorem LC (v:BitVec 32):(v.toNat:Int)/2147483648=if v.msb then 1 else 0:=by
 rw[BitVec.msb_eq_decide];have:=v.isLt;by_cases h:2147483648<=v.toNat
 ·simp[h];omega
 ·simp[h];omega
theorem BF (P:Program) (T:TypeId) (x y:Operand) (k':IntKind) (a:Int) (K:Value->Prop):fp P .shr T x y (.int .u32 a) (.int k' 31) K=K (.int .u32 (a/2147483648)):=by
 have e1:(min (31:Int).toNat (IntKind.bits .u32))=31:=aH;have e2:a.fdiv (2 ^ 31)=a/2147483648:=by rw[Int.fdiv_eq_ediv_of_nonneg _ aH];rfl
 rw[lg,e1,e2];simp
theorem BH (P:Program) (T:TypeId) (x y:Operand) (k':IntKind) (a b:Int) (K:Value->Prop):fp P .and T x y (.int .u32 a) (.int k' b) K=(.u32=k'/\K (.int .u32 (bw a &&& bw b).toNat)):=by
 rw[tH,m5];exact congrArg (fun n=>(IntKind.u32=k'/\K (.int .u32 n))) (jv (bw a &&& bw b))
theorem Ft (P:Program) (T:TypeId) (x y:Operand) (k':IntKind) (a b:Int) (K:Value->Prop):fp P .or T x y (.int .u32 a) (.int k' b) K=(.u32=k'/\K (.int .u32 (bw a ||| bw b).toNat)):=by
 rw[xo,m5];exact congrArg (fun n=>(IntKind.u32=k'/\K (.int .u32 n))) (jv (bw a ||| bw b))
theorem BC (P:Program) (T:TypeId) (x y:Operand) (k':IntKind) (a b:Int) (K:Value->Prop):fp P .xor T x y (.int .u32 a) (.int k' b) K=(.u32=k'/\K (.int .u32 (bw a ^^^ bw b).toNat)):=by
 rw[y9,m5];exact congrArg (fun n=>(IntKind.u32=k'/\K (.int .u32 n))) (jv (bw a ^^^ bw b))
attribute [go_sem ↓ 10000] BH Ft BC BF
theorem AU (x y c:Int) (hx:0<=x/\x<4294967296) (hy:0<=y/\y<4294967296) (hc:0<=c/\c<=1) :
  Fn Tryz.prog 226 [iU x,iU y,iU c] [iU ((x-y-c) % 4294967296),iU (if x<y+c then 1 else 0)]:=by
 refine aJ (fn:=Tryz.f226) ?_;simp -dsimp only[go_sem];refine rW _ _ _ ?_;simp -dsimp only[go_sem];refine rW _ _ _ ?_;simp -dsimp only[go_sem];simp only[JP];have e3:((x-y) % 4294967296-c) % 4294967296=(x-y-c) % 4294967296:=aw;rw[LC,e3];simp only[BitVec.msb_or,BitVec.msb_and,BitVec.msb_xor,yh hx,yh hy,yh (show(0:Int)<=4294967295/\(4294967295:Int)<4294967296 by decide),yh (x:=(x-y-c) % 4294967296) aw];congr 3;by_cases h1:(2147483648:Int)<=x<;>by_cases h2:(2147483648:Int)<=y<;>by_cases h3:(2147483648:Int)<=(x-y-c) % 4294967296<;>by_cases h4:x<y+c<;>simp[h1,h2,h3,h4]<;>omega
theorem IR (x y R:List Int) (hx:Dig x) (hy:Dig y) (hle:y.length<=x.length) (hxy:val y<=val x) (hlx:x.length<17592186044416) (hR:R=digs x.length (val x-val y)) :
  Fn Tryz.prog 212 [iL x,iL y] [iL R]:=by
 refine aJ (fn:=Tryz.f212) ?_;simp -dsimp only[go_sem];refine⟨aw,?_⟩;refine jX (fun n τ β ε=>∃ i:Nat,n=x.length-i/\i<=x.length/\τ 0=aL x/\τ 1=aL y/\τ 5 = .sl 11 1 x.length/\τ 14=aI i/\τ 13=aI x.length /\
    ∃(l r:List Int) (c:Int),ε 11=⟨1,1,(l++r).map bG,true,true⟩/\l.length=i/\(l++r).length=x.length/\Dig l/\0<=c/\c<=1/\τ 6=aU c/\val l-4294967296 ^ i*c=val (x.take i)-val (y.take i))
   (fun e τ β ε=>e = .exit 0/\τ 0=aL x/\τ 5 = .sl 11 1 x.length /\
    ∃(l:List Int) (c:Int),ε 11=⟨1,1,l.map bG,true,true⟩/\l.length=x.length/\Dig l/\0<=c/\c<=1/\val l-4294967296 ^ x.length*c=val x-val y) x.length ?_ ?_ ?_
 ·refine⟨0,aw,aw,?_⟩;simp -dsimp only[go_sem];refine⟨rfl,[],List.replicate x.length 0,0,?_,rfl,au,Dig.nil,aw,aw,rfl,by simp[val]⟩;simp[eV]
 ·rintro n τ β ε π ⟨i,hn,hi,h0,h1,h5,h25,h24,l,r,c,hE,hl,hlr,hdl,hc0,hc1,h6,hv⟩;have key:∀ y0:Int,0<=y0->y0<4294967296->∀(h:i<x.length),val (y.take (i+1))=val (y.take i)+4294967296 ^ i*y0 ->
    val (l++[(x[i]-y0-c) % 4294967296])-4294967296 ^ (i+1)*(if x[i]<y0+c then 1 else 0)=val (x.take (i+1))-val (y.take (i+1)):=by
   intro y0 hy0 hy1 h hyv;have hxi:=hx.get h;rw[hyv,bM h,fq,hl];have e3:(4294967296:Int) ^ i*((x[i]-y0-c) % 4294967296)-4294967296 ^ (i+1)*(if x[i]<y0+c then 1 else 0)=4294967296 ^ i*(x[i]-y0-c):=by
    rw[Int.pow_succ,Int.mul_assoc,<-Int.mul_sub];congr 1;split<;>omega
   have e4:(4294967296:Int) ^ i*(x[i]-y0-c)=4294967296 ^ i*x[i]-4294967296 ^ i*y0-4294967296 ^ i*c:=by rw[Int.mul_sub,Int.mul_sub]
   omega
  simp -dsimp only[go_sem,h0,h1,h5,h25,h24,h6,hE];refine bi (fun h=>?_) (fun h=>?_)<;>simp -dsimp only[go_sem,h0,h1,h5,h25,h24,h6,hE]
  ·have hix:i<x.length:=aw;obtain⟨d,r,rfl⟩:∃ d r',r=d::r':=by
    cases r with
    | nil=>simp at hlr;omega
    | cons d r=>exact⟨d,r,rfl⟩
   have hxi:=hx.get hix;refine bi (fun h'=>?_) (fun h'=>?_)<;>simp -dsimp only[go_sem,h0,h1,h5,h25,h24,h6,hE]
   ·have hiy:i<y.length:=aw;have hyi:=hy.get hiy;refine aV hiy ?_;simp -dsimp only[go_sem,h0,h1,h5,h25,h24,h6,hE];refine aV hix ?_;simp -dsimp only[go_sem,h0,h1,h5,h25,h24,h6,hE];refine aK (AU _ _ _ hxi hyi aw) ?_;simp -dsimp only[go_sem,h0,h1,h5,h25,h24,h6,hE];refine⟨aw,aV aw ?_⟩;simp -dsimp only[go_sem,h0,h1,h5,h25,h24,h6,hE];refine⟨aw,again (x.length-(i+1)) aw ⟨i+1,rfl,aw,?_⟩⟩;simp -dsimp only[go_sem,h0,h1,h5,h25,h24,h6,hE];refine⟨ja aw,l++[(x[i]-y[i]-c) % 4294967296],r,if x[i]<y[i]+c then 1 else 0,?_,by simp[hl],by simp at hlr ⊢;omega,hdl.snoc aw,by split<;>omega,by split<;>omega,rfl,?_⟩
    ·subst hl;simp
    ·exact key _ hyi.1 hyi.2 hix (bM hiy)
   ·refine aV hix ?_;simp -dsimp only[go_sem,h0,h1,h5,h25,h24,h6,hE];refine aK (AU _ _ _ hxi aw aw) ?_;simp -dsimp only[go_sem,h0,h1,h5,h25,h24,h6,hE];refine⟨aw,aV aw ?_⟩;simp -dsimp only[go_sem,h0,h1,h5,h25,h24,h6,hE];refine⟨aw,again (x.length-(i+1)) aw ⟨i+1,rfl,aw,?_⟩⟩;simp -dsimp only[go_sem,h0,h1,h5,h25,h24,h6,hE];refine⟨ja aw,l++[(x[i]-0-c) % 4294967296],r,if x[i]<0+c then 1 else 0,?_,by simp[hl],by simp at hlr ⊢;omega,hdl.snoc aw,by split<;>omega,by split<;>omega,rfl,?_⟩
    ·subst hl;simp
    ·refine key 0 aw aw hix ?_;rw[List.take_of_length_le aw,List.take_of_length_le aw];simp
  ·have hix:i=x.length:=aw;subst hix;rw[List.take_length,List.take_of_length_le aw]at hv;obtain rfl:r=[]:=List.eq_nil_of_length_eq_zero (by simp at hlr;omega);exact⟨l,c,by rw[List.append_nil],hl,hdl,hc0,hc1,hv⟩
 ·rintro e τ β ε π ⟨rfl,h0,h5,l,c,hE,hl,hdl,hc0,hc1,hv⟩;simp -dsimp only[go_sem,h0,h5,hE];have hR':R=l:=by
   rw[hR];refine(iO hdl hl ?_).symm;have h1:=eA hdl;have h2:=bm hdl;rw[hl]at h1;have h3:c=0:=by
    rcases Int.lt_or_le 0 c with h|h
    ·rw[show c=1 from by omega]at hv;omega
    ·omega
   subst h3;omega
  subst hR';simp[hl]
  try exact List.take_of_length_le (by simp[hl])
def lb (z:Int):List Int:=limbs z.natAbs
def eZ (z:Int):List C:=lL (decide (z<0)) (lb z)
abbrev iZ (z:Int):IV := .g (eZ z)
theorem bD (z:Int):val (lb z)=z.natAbs:=lB _
theorem bU (z:Int):Dig (lb z):=oo _
theorem ss (z:Int):Tr (lb z):=uy _
theorem gV {z:Int}:(lb z).length=0↔z=0:=by
 constructor
 ·intro h;have:=qd (List.eq_nil_of_length_eq_zero h);omega
 ·rintro rfl;simp[lb,limbs]
theorem kU (z:Int):lb (-z)=lb z:=by simp[lb]
theorem NQ {neg:Bool} {l:List Int} (h:Dig l):lL (neg && decide (0<(trim l).length)) (trim l)=eZ (if neg then -val l else val l):=by
 have h0:=bm h;have e:trim l=lb (if neg then -val l else val l):=by
  rw[IW h];unfold lb;congr 1;split<;>omega
 rw[e];unfold eZ;congr 1;have h1:=gV (z:=if neg then -val l else val l)
 cases neg with
 | false=>simp;omega
 | true =>
  simp only[Bool.true_and,if_true]at h1 ⊢;rw[decide_eq_decide];omega
theorem lv (neg:Bool) (l:List Int) (hd:Dig l) (hm:l.length<4611686018427387904):Fn Tryz.prog 182 [iL l,iB neg] [iZ (if neg then -val l else val l)]:=by
 have:=Lu neg l hm;rwa [NQ hd]at this
theorem vg (z:Int):Fn Tryz.prog 187 [iZ z] [iN z.sign]:=by
 have h:=MV (decide (z<0)) (lb z);have e:(if(lb z).length=0 then(0:Int)else if decide (z<0)=true then -1 else 1)=z.sign:=by
  have h1:=gV (z:=z);split
  ·rw[h1.1 ‹_›];rfl
  ·split
   ·rename_i h2;simp at h2;rw[Int.sign_eq_neg_one_of_neg h2]
   ·rename_i h2;simp at h2;rw[Int.sign_eq_one_of_pos aw]
 rw[e]at h;exact h
theorem qH (z:Int):Fn Tryz.prog 207 [iZ z] [iZ (-z)]:=by
 have h:=PY (decide (z<0)) (lb z);have e:lL (!decide (z<0) && decide (0<(lb z).length)) (lb z)=eZ (-z):=by
  unfold eZ;rw[kU];congr 1;have h1:=gV (z:=z);by_cases h2:z<0
  ·simp[h2];omega
  ·simp[h2];omega
 rw[e]at h;exact h
theorem gF (a b:Int) (hl:(lb a).length<17592186044416):Fn Tryz.prog 211 [iL (lb a),iL (lb b)] [iN (fv a.natAbs b.natAbs)]:=by
 have:=CY (lb a) (lb b) (bU a) (bU b) (ss a) (ss b) aw;rwa [bD,bD]at this
theorem fX (z:Int):(z.natAbs:Int)<4294967296 ^ (lb z).length:=by
 have:=IX z.natAbs;have h4:((4294967296 ^ (limbs z.natAbs).length:Nat):Int)=(4294967296:Int) ^ (limbs z.natAbs).length:=au;unfold lb;omega
theorem fI {z:Int} {k:Nat} (h:(z.natAbs:Int)<4294967296 ^ k):(lb z).length<=k:=by
 refine Gk ?_;have h4:((4294967296 ^ k:Nat):Int)=(4294967296:Int) ^ k:=au;omega
theorem Cs {a b:Int} {k:Nat} (ha:(lb a).length<=k) (hb:(lb b).length<=k):(lb (a+b)).length<=k+1:=by
 refine fI ?_;have h1:=fX a;have h2:=fX b;have h3:=mg ha;have h4:=mg hb;rw[Int.pow_succ];omega
theorem fh (a b:Int):(lb (a*b)).length<=(lb a).length+(lb b).length:=by
 refine fI ?_;have h1:=fX a;have h2:=fX b;rw[Int.natAbs_mul,Int.pow_add,Int.natCast_mul];have h3:=Int.mul_le_mul (a:=(a.natAbs:Int)) (b:=(b.natAbs:Int)) (Int.le_of_lt h1) (Int.le_of_lt h2) aw aw;have h5:=cx (lb a).length;have h6:=cx (lb b).length;rcases Int.lt_or_le 0 (b.natAbs:Int)with h|h
 ·exact Int.lt_of_lt_of_le (Int.mul_lt_mul_of_pos_right h1 h) (Int.mul_le_mul_of_nonneg_left (Int.le_of_lt h2) aw)
 ·rw[show(b.natAbs:Int)=0 from by omega,Int.mul_zero];exact Int.mul_pos h5 h6
theorem GD (a b:Int):val (digs (max (lb a).length (lb b).length+1) (a.natAbs+b.natAbs:Int))=(a.natAbs+b.natAbs:Int):=by
 refine f0 aw ?_;have h1:=fX a;have h2:=fX b;have h3:=mg (a:=(lb a).length) (b:=max (lb a).length (lb b).length) aw;have h4:=mg (a:=(lb b).length) (b:=max (lb a).length (lb b).length) aw;rw[Int.pow_succ];omega
theorem ke {a b:Int} (h:b.natAbs<=a.natAbs):val (digs (lb a).length (a.natAbs-b.natAbs:Int))=(a.natAbs-b.natAbs:Int):=by
 refine f0 aw ?_;have h1:=fX a;omega
theorem om (a b:Int) (h:b.natAbs<=a.natAbs) (hla:(lb a).length<17592186044416):Fn Tryz.prog 212 [iL (lb a),iL (lb b)] [iL (digs (lb a).length (a.natAbs-b.natAbs:Int))]:=by
 refine IR _ _ _ (bU a) (bU b) ?_ ?_ hla (by rw[bD,bD])
 ·have h1:=fX a;exact fI aw
 ·rw[bD,bD];omega
theorem NR (z:Int):eZ z=[.v (.bool (decide (z<0))),.lst ((lb z).map bG)]:=(rfl)
attribute [go_sem] NR List.contains_nil List.contains_cons Bool.or_eq_false_iff beq_eq_false_iff_ne
theorem kJ {z z':Int} (h:z=z'):some [iZ z]=some [iZ z']:=by rw[h]
theorem qs {x y:Int}:fv x y<0↔x<y:=by unfold fv;split<;>(try split)<;>omega
theorem Dt (a b:Int) (hla:(lb a).length<8796093022208) (hlb:(lb b).length<8796093022208):Fn Tryz.prog 185 [iZ a,iZ b] [iZ (a+b)]:=by
 refine aJ (fn:=Tryz.f185) ?_;simp -dsimp only[go_sem];refine ld (fun h=>?_) (fun h=>?_)<;>simp -dsimp only[go_sem]
 ·refine ap 8 [] false true ?_;simp -dsimp only[go_sem];refine aK (Lr (lb a) (lb b) _ (bU a) (bU b) aw aw (by rw[bD,bD])) ?_;simp -dsimp only[go_sem];refine aK (lv _ _ (dw _ _) (by rw[cP];omega)) ?_;simp -dsimp only[go_sem];refine kJ ?_;rw[GD];have hh:(a<0)↔(b<0):=by simpa using h
  split<;>rename_i h1<;>simp only[decide_eq_true_eq]at h1<;>omega
 ·have h0:=h;have hh:¬ ((a<0)↔(b<0)):=by simpa using h0
  refine aK (gF a b aw) ?_;simp -dsimp only[go_sem];refine bi (fun h=>?_) (fun h=>?_)<;>rw[qs]at h<;>simp -dsimp only[go_sem]
  ·refine ap 8 [] false true ?_;simp -dsimp only[go_sem];refine aK (om b a aw aw) ?_;simp -dsimp only[go_sem];refine aK (lv _ _ (dw _ _) (by rw[cP];omega)) ?_;simp -dsimp only[go_sem];refine kJ ?_;rw[ke aw];split<;>rename_i h1<;>simp only[decide_eq_true_eq]at h1<;>omega
  ·refine ap 8 [] false true ?_;simp -dsimp only[go_sem];refine aK (om a b aw aw) ?_;simp -dsimp only[go_sem];refine aK (lv _ _ (dw _ _) (by rw[cP];omega)) ?_;simp -dsimp only[go_sem];refine kJ ?_;rw[ke aw];split<;>rename_i h1<;>simp only[decide_eq_true_eq]at h1<;>omega
theorem vw (n:Int) (h : -9223372036854775808<=n/\n<9223372036854775808):Fn Tryz.prog 147 [iN n] [iZ n]:=by
 refine aJ (fn:=Tryz.f147) ?_;simp -dsimp only[go_sem];have key:∀(neg:Bool) (m:Int),0<=m->m<18446744073709551616->Fn Tryz.prog 182 [iL [m % 4294967296,m/4294967296 % 4294967296],iB neg] [iZ (if neg then -m else m)]:=by
  intro neg m h0 h1;have hv:val [m % 4294967296,m/4294967296 % 4294967296]=m:=by simp only[val];omega
  have:=lv neg [m % 4294967296,m/4294967296 % 4294967296] (Dig.cons.2 ⟨aw,Dig.cons.2 ⟨aw,Dig.nil⟩⟩) au;rwa [hv]at this
 refine bi (fun h'=>?_) (fun h'=>?_)<;>simp -dsimp only[go_sem,h']
 ·refine aK (key true ((0-n % 18446744073709551616) % 18446744073709551616) aw aw) ?_;simp -dsimp only[go_sem];refine kJ ?_;omega
 ·refine aK (key false (n % 18446744073709551616) aw aw) ?_;simp -dsimp only[go_sem];refine kJ ?_;omega
theorem Ek {z z':Int} (h:z=z'):some [iN z]=some [iN z']:=by rw[h]
theorem Dr (a b:Int) (hla:(lb a).length<8796093022208) (hlb:(lb b).length<8796093022208):Fn Tryz.prog 205 [iZ a,iZ b] [iN (fv a b)]:=by
 refine aJ (fn:=Tryz.f205) ?_;by_cases h:a<0<;>by_cases h':b<0<;>simp -dsimp only[go_sem,h,h']
 ·refine aK (gF b a aw) ?_;simp -dsimp only[go_sem];refine Ek ?_;simp only[fv];split<;>split<;>(try split)<;>(try split)<;>omega
 ·refine Ek ?_;simp only[fv];split<;>omega
 ·refine Ek ?_;simp only[fv];split<;>(try split)<;>omega
 ·refine aK (gF a b aw) ?_;simp -dsimp only[go_sem];refine Ek ?_;simp only[fv];split<;>split<;>(try split)<;>(try split)<;>omega
theorem JN (a b:Nat):((a:Int)+(b:Int))=((a+b:Nat):Int):=aw
theorem GK (a:Nat):((a:Int)+1)=((a+1:Nat):Int):=aw
attribute [go_sem] JN GK
theorem cf {α:Type} {l:List α} {x:Int} {K:α->Prop} (i:Nat) (hx:x=i) (h:i<l.length) (hK:K l[i]):wEl l x.toNat K ⟨⟩:=by
 subst hx;exact aV (by simpa using h) (by simpa using hK)
theorem uN {l:List Int} {i:Nat} {d:Int} {m:Nat} (hm:i<m) (hz:∀ j (h:j<l.length),m<=j->l[j]=0):∀ j (h:j<(l.set i d).length),m<=j->(l.set i d)[j]=0:=by
 intro j h hj;rw[List.getElem_set_ne aw];exact hz j _ hj
theorem ju:∀{l:List Int} {j:Nat} (h:j<l.length) (d:Int),val (l.set j d)=val l+4294967296 ^ j*(d-l[j])
 | x::l,0,_,d=>by simp[val];omega
 | x::l,j+1,h,d=>by
  have:=ju (l:=l) (j:=j) (by simpa using h) d;simp only[List.set_cons_succ,val,this,List.getElem_cons_succ]
  grind
theorem Kq (a b:Int) (hla:(lb a).length<8796093022208) (hlb:(lb b).length<8796093022208):Fn Tryz.prog 213 [iZ a,iZ b] [iZ (a*b)]:=by
 refine aJ (fn:=Tryz.f213) ?_;simp -dsimp only[go_sem]
 repeat(refine And.intro aw ?_)
 have hA:=bU a;have hB:=bU b;have hva:=bD a;have hvb:=bD b;refine bt [(6,10),(22,69)] [] [(18,18)] (fun n τ β ε=>∃ i:Nat,n=(lb a).length-i/\i<=(lb a).length/\τ 22=aI i /\
   ∃ L:List Int,ε 18=⟨1,1,L.map bG,true,true⟩/\L.length=(lb a).length+(lb b).length/\Dig L/\val L=val ((lb a).take i)*val (lb b)/\(∀ j (h:j<L.length),i+(lb b).length<=j->L[j]=0))
  (fun e τ β ε=>e = .exit 0/\∃ L:List Int,ε 18=⟨1,1,L.map bG,true,true⟩/\L.length=(lb a).length+(lb b).length/\Dig L/\val L=val (lb a)*val (lb b)) (lb a).length ?_ ?_ ?_
 ·refine⟨0,aw,aw,rfl,List.replicate ((lb a).length+(lb b).length) 0,?_,au,Dig.replicate _,?_,fun j h _=>by simp⟩
  ·simp -dsimp only[go_sem];simp[eV]
  ·rw[kN];simp[val]
 ·rintro n τ β ε π hK hKB hKE ⟨i,hn,hi,h22,L,hE,hL,hD,hv,hz⟩;have h2:τ 2 = .bp 2 1 0:=hK 2 aH;have h3:τ 3 = .bp 3 1 0:=hK 3 aH;have h5:τ 5 = .sl 18 1 ((lb a).length+(lb b).length):=hK 5 aH;have h20:τ 20=aL (lb a):=hK 20 aH;have h21:τ 21=aI (lb a).length:=hK 21 aH;have hb2:β 2=⟨1,eZ a⟩:=hKB 2 aH;have hb3:β 3=⟨1,eZ b⟩:=hKB 3 aH;simp -dsimp only[go_sem,h2,h3,h5,h20,h21,h22,hb2,hb3,hE];refine bi (fun h=>?_) (fun h=>?_)<;>simp -dsimp only[go_sem,h2,h3,h5,h20,h21,h22,hb2,hb3,hE]
  ·have hia:i<(lb a).length:=aw;have hai:=hA.get hia;refine aV hia ?_;simp -dsimp only[go_sem,h2,h3,h5,h20,h21,h22,hb2,hb3,hE];refine a8 [(8,10),(30,59)] [] [(18,18)] (fun n τ β ε=>∃ k:Nat,n=(lb b).length-k/\k<=(lb b).length/\τ 30=aI k /\
     ∃(M:List Int) (c:Int),τ 8=aW c/\0<=c/\c<4294967296/\ε 18=⟨1,1,M.map bG,true,true⟩/\M.length=(lb a).length+(lb b).length/\Dig M /\
      val M+4294967296 ^ (i+k)*c=val L+4294967296 ^ i*((lb a)[i]*val ((lb b).take k))/\(∀ j (h:j<M.length),i+(lb b).length<=j->M[j]=0))
    (fun e τ β ε=>e = .exit 2/\∃(M:List Int) (c:Int),τ 8=aW c/\0<=c/\c<4294967296/\ε 18=⟨1,1,M.map bG,true,true⟩/\M.length=(lb a).length+(lb b).length/\Dig M /\
      val M+4294967296 ^ (i+(lb b).length)*c=val L+4294967296 ^ i*((lb a)[i]*val (lb b))/\(∀ j (h:j<M.length),i+(lb b).length<=j->M[j]=0)) (lb b).length ?_ ?_ ?_
   ·refine⟨0,aw,aw,rfl,L,0,rfl,aw,aw,hE,hL,hD,by simp[val],hz⟩
   ·rintro n τ' β' ε' π' hK' hKB' hKE' ⟨k,hn,hk,h30,M,c,h8,hc0,hc1,hE',hM,hMD,hMv,hMz⟩;have g5:τ' 5 = .sl 18 1 ((lb a).length+(lb b).length):=(hK' 5 aH).trans h5;have g6:τ' 6=aI i:=hK' 6 aH;have g7:τ' 7=aU (lb a)[i]:=hK' 7 aH;have g28:τ' 28=aL (lb b):=hK' 28 aH;have g29:τ' 29=aI (lb b).length:=hK' 29 aH;simp -dsimp only[go_sem,g5,g6,g7,g28,g29,h30,h8,hE',hK',hKB',hKE'];refine bi (fun h=>?_) (fun h=>?_)<;>simp -dsimp only[go_sem,g5,g6,g7,g28,g29,h30,h8,hE',hK',hKB',hKE']
    ·have hkb:k<(lb b).length:=aw;have hbk:=hB.get hkb;refine aV hkb ?_;simp -dsimp only[go_sem,g5,g6,g7,g28,g29,h30,h8,hE',hK',hKB',hKE'];have hik:i+k<M.length:=aw;have hm:=hMD.get hik
     repeat(refine And.intro aw ?_)
     refine aV hik ?_;simp -dsimp only[go_sem,g5,g6,g7,g28,g29,h30,h8,hE',hK',hKB',hKE']
     repeat(refine And.intro aw ?_)
     refine aV hik ?_;simp -dsimp only[go_sem,g5,g6,g7,g28,g29,h30,h8,hE',hK',hKB',hKE'];have p1:0<=(lb a)[i]*(lb b)[k]:=Int.mul_nonneg hai.1 hbk.1;have p2:(lb a)[i]*(lb b)[k]<=4294967295*4294967295:=Int.mul_le_mul aw aw hbk.1 aw;have e3:(c+((lb a)[i] % 18446744073709551616*((lb b)[k] % 18446744073709551616) % 18446744073709551616+M[i+k] % 18446744073709551616) % 18446744073709551616) % 18446744073709551616=c+(lb a)[i]*(lb b)[k]+M[i+k]:=by
      rw[Int.emod_eq_of_lt hai.1 aw,Int.emod_eq_of_lt hbk.1 aw];generalize (lb a)[i]*(lb b)[k]=z at *
      omega
     repeat(refine And.intro aw ?_)
     refine again ((lb b).length-(k+1)) aw ⟨?_,?_,?_,k+1,rfl,aw,?_⟩<;>simp -dsimp only[go_sem,hK',hKB',hKE',e3];generalize hz':(lb a)[i]*(lb b)[k]=z at *
     refine⟨M.set (i+k) ((c+z+M[i+k]) % 4294967296),(c+z+M[i+k])/4294967296,rfl,aw,aw,rfl,by simp[hM],hMD.set aw,?_,uN aw hMz⟩;rw[ju hik,bM hkb];have e4:(4294967296:Int) ^ (i+(k+1))=4294967296 ^ i*(4294967296 ^ k*4294967296):=by rw[Int.pow_add,Int.pow_succ]
     have e5:(4294967296:Int) ^ (i+k)=4294967296 ^ i*4294967296 ^ k:=Int.pow_add ..;have e6:=Int.emod_add_mul_ediv (c+z+M[i+k]) 4294967296;rw[e5]at hMv ⊢;rw[e4];generalize (c+z+M[i+k]) % 4294967296=r at *
     generalize (c+z+M[i+k])/4294967296=q at *
     grind
    ·have hkb:k=(lb b).length:=aw;subst hkb;rw[List.take_length]at hMv;exact⟨M,c,rfl,hc0,hc1,rfl,hM,hMD,hMv,hMz⟩
   ·rintro e τ' β' ε' π' hK' hKB' hKE' ⟨rfl,M,c,h8,hc0,hc1,hE',hM,hMD,hMv,hMz⟩;have g5:τ' 5 = .sl 18 1 ((lb a).length+(lb b).length):=(hK' 5 aH).trans h5;have g6:τ' 6=aI i:=hK' 6 aH;have g3:τ' 3 = .bp 3 1 0:=(hK' 3 aH).trans h3;have g22:τ' 22=aI i:=(hK' 22 aH).trans h22;have gb3:β' 3=⟨1,eZ b⟩:=(hKB' 3 aH).trans hb3;simp -dsimp only[go_sem,g3,g5,g6,g22,gb3,h8,hE'];have hib:i+(lb b).length<M.length:=aw;have hm:=hMz _ hib (ay _)
    repeat(refine And.intro aw ?_)
    refine aV hib ?_;simp -dsimp only[go_sem,g3,g5,g6,g22,gb3,h8,hE']
    repeat(refine And.intro aw ?_)
    have hKo:=Kp.step2 hK hK' (by intro n;simp[inR];omega) (by simp -dsimp only[go_sem,hK]);have hKBo:=Kp.step2 hKB hKB' (by simp[inR]) hKB;have hKEo:=Kp.step2 hKE hKE' (by simp[inR]) hKE;refine again ((lb a).length-(i+1)) aw ⟨?_,?_,?_,i+1,rfl,aw,?_⟩
    ·simp -dsimp only[go_sem,hKo]
    ·exact hKBo
    ·simp -dsimp only[go_sem,hKEo]
    simp -dsimp only[go_sem];refine⟨M.set (i+(lb b).length) (c % 4294967296),rfl,by simp[hM],hMD.set aw,?_,?_⟩
    ·rw[ju hib,hm,bM hia,Int.emod_eq_of_lt hc0 hc1]
     grind
    ·intro j hj hle;rw[List.getElem_set_ne aw];exact hMz j _ aw
  ·have hia:i=(lb a).length:=aw;subst hia;rw[List.take_length]at hv;exact⟨hK,hKB,hKE,L,rfl,hL,hD,hv⟩
 ·rintro e τ β ε π hK hKB hKE ⟨rfl,L,hE,hL,hD,hv⟩;have h2:τ 2 = .bp 2 1 0:=hK 2 aH;have h3:τ 3 = .bp 3 1 0:=hK 3 aH;have h4:τ 4 = .bp 4 1 0:=hK 4 aH;have h5:τ 5 = .sl 18 1 ((lb a).length+(lb b).length):=hK 5 aH;have hb2:β 2=⟨1,eZ a⟩:=hKB 2 aH;have hb3:β 3=⟨1,eZ b⟩:=hKB 3 aH;have hb4:β 4=⟨1,lL false []⟩:=hKB 4 aH;refine⟨_,bA.freeze _ 18,?_⟩;simp -dsimp only[go_sem,h2,h3,h4,h5,hb2,hb3,hb4,hE];rw[List.take_of_length_le (by simp[hL])];refine aK (lv _ L hD aw) ?_;simp -dsimp only[go_sem,h2,h3,h4,h5,hb2,hb3,hb4,hE];refine kJ ?_;rw[hv,hva,hvb];by_cases q1:a<0<;>by_cases q2:b<0
  ·rw[show(a.natAbs:Int) = -a from by omega,show(b.natAbs:Int) = -b from by omega];simp[q1,q2]<;>grind
  ·rw[show(a.natAbs:Int) = -a from by omega,show(b.natAbs:Int)=b from by omega];simp[q1,q2]<;>grind
  ·rw[show(a.natAbs:Int)=a from by omega,show(b.natAbs:Int) = -b from by omega];simp[q1,q2]<;>grind
  ·rw[show(a.natAbs:Int)=a from by omega,show(b.natAbs:Int)=b from by omega];simp[q1,q2]<;>grind
theorem Bm (rs:List (List C)) (hl:lens 1 rs) (hs:rs.length<=1099511627776):FnM Tryz.prog 242 [.c (.lst rs)] 1 rs:=by
 refine jO (fn:=Tryz.f242) av rfl av au av ?_;refine WP.seq (bQ (kind:=kd) _ ?_);simp -dsimp only[go_sem];refine WP.seq (WP.seq (WP.nilTest (rs:=rs) (e:=141) av av ?_));intro t ht;simp only[pQ];refine bQ (kind:=kd) _ ?_;cases t with
 | true =>
  have hr:rs=[]:=by
   rcases rs with _|⟨r,rs⟩
   ·rfl
   ·exact absurd (ht au) au
  subst hr;simp -dsimp only[go_sem];exact⟨.inr rfl,2,rfl,.inl ⟨rfl,rfl⟩⟩
 | false =>
  simp -dsimp only[go_sem];refine bQ (kind:=kd) _ ?_;simp -dsimp only[go_sem,hl];refine⟨rfl,by simp[lens],ar,?_⟩;refine⟨.inr rfl,2,rfl,.inr ⟨7,1,?_,aH,?_⟩⟩
  ·simp[bT]
  ·simp[bT]
theorem Bk (rs:List (List C)) (hl:lens 1 rs) (hs:rs.length<=1099511627776):FnM Tryz.prog 248 [.c (.lst rs)] 1 rs:=by
 refine jO (fn:=Tryz.f248) av rfl av au av ?_;refine WP.seq (bQ (kind:=kd) _ ?_);simp -dsimp only[go_sem];refine WP.seq (WP.seq (WP.nilTest (rs:=rs) (e:=144) av av ?_));intro t ht;simp only[pQ];refine bQ (kind:=kd) _ ?_;cases t with
 | true =>
  have hr:rs=[]:=by
   rcases rs with _|⟨r,rs⟩
   ·rfl
   ·exact absurd (ht au) au
  subst hr;simp -dsimp only[go_sem];exact⟨.inr rfl,2,rfl,.inl ⟨rfl,rfl⟩⟩
 | false =>
  simp -dsimp only[go_sem];refine bQ (kind:=kd) _ ?_;simp -dsimp only[go_sem,hl];refine⟨rfl,by simp[lens],ar,?_⟩;refine⟨.inr rfl,2,rfl,.inr ⟨7,1,?_,aH,?_⟩⟩
  ·simp[bT]
  ·simp[bT]
theorem Bn (rs:List (List C)) (hl:lens 8 rs) (hs:rs.length<=1099511627776):FnM Tryz.prog 161 [.c (.lst rs)] 8 rs:=by
 refine jO (fn:=Tryz.f161) av rfl av au av ?_;refine WP.seq (bQ (kind:=kd) _ ?_);simp -dsimp only[go_sem];refine WP.seq (WP.seq (WP.nilTest (rs:=rs) (e:=102) av av ?_));intro t ht;simp only[pQ];refine bQ (kind:=kd) _ ?_;cases t with
 | true =>
  have hr:rs=[]:=by
   rcases rs with _|⟨r,rs⟩
   ·rfl
   ·exact absurd (ht au) au
  subst hr;simp -dsimp only[go_sem];exact⟨.inr rfl,2,rfl,.inl ⟨rfl,rfl⟩⟩
 | false =>
  simp -dsimp only[go_sem];refine bQ (kind:=kd) _ ?_;simp -dsimp only[go_sem,hl];refine⟨rfl,by simp[lens],ar,?_⟩;refine⟨.inr rfl,2,rfl,.inr ⟨7,1,?_,aH,?_⟩⟩
  ·simp[bT]
  ·simp[bT]
theorem pF (rs:List (List C)) (hl:lens 2 rs) (hs:rs.length<=1099511627776):FnM Tryz.prog 67 [.c (.lst rs)] 2 rs:=by
 refine jO (fn:=Tryz.f67) av rfl av au av ?_;refine WP.seq (bQ (kind:=kd) _ ?_);simp -dsimp only[go_sem];refine WP.seq (WP.seq (WP.nilTest (rs:=rs) (e:=44) av av ?_));intro t ht;simp only[pQ];refine bQ (kind:=kd) _ ?_;cases t with
 | true =>
  have hr:rs=[]:=by
   rcases rs with _|⟨r,rs⟩
   ·rfl
   ·exact absurd (ht au) au
  subst hr;simp -dsimp only[go_sem];exact⟨.inr rfl,2,rfl,.inl ⟨rfl,rfl⟩⟩
 | false =>
  simp -dsimp only[go_sem];refine bQ (kind:=kd) _ ?_;simp -dsimp only[go_sem,hl];refine⟨rfl,by simp[lens],ar,?_⟩;refine⟨.inr rfl,2,rfl,.inr ⟨7,1,?_,aH,?_⟩⟩
  ·simp[bT]
  ·simp[bT]
def or64 (a b:Int):Int:=((BitVec.ofInt 64 a ||| BitVec.ofInt 64 b).toNat:Int)
theorem Fs (P:Program) (T:TypeId) (x y:Operand) (k':IntKind) (a b:Int) (K:Value->Prop):fp P .or T x y (.int .u64 a) (.int k' b) K=(.u64=k'/\K (.int .u64 (or64 a b))):=by
 rw[xo,mZ];refine congrArg (fun n=>(IntKind.u64=k'/\K (.int .u64 n))) ?_;have:=(BitVec.ofInt 64 a ||| BitVec.ofInt 64 b).isLt;show((BitVec.ofInt 64 a ||| BitVec.ofInt 64 b).toNat:Int) % _=_;unfold or64;omega
attribute [go_sem ↓ 10000] Fs
theorem uo {a b k:Nat} (hb:b<2 ^ k):(a*2 ^ k) ||| b=a*2 ^ k+b:=by
 have:=Nat.shiftLeft_add_eq_or_of_lt hb a;rw[Nat.shiftLeft_eq]at this;exact this.symm
theorem pZ {a b:Int} (ha:0<=a/\a<4294967296) (hb:0<=b/\b<4294967296):or64 (a*4294967296) b=a*4294967296+b:=by
 unfold or64;rw[BitVec.toNat_or,BitVec.toNat_ofInt,BitVec.toNat_ofInt];have e1:(a*4294967296 % (2 ^ 64:Nat)).toNat=a.toNat*2 ^ 32:=aw;have e2:(b % (2 ^ 64:Nat)).toNat=b.toNat:=aw;rw[e1,e2,uo aw];omega
theorem cd {l:List Int} {i:Nat} (h:i<l.length):val (l.drop i)=l[i]+4294967296*val (l.drop (i+1)):=by
 rw[List.drop_eq_getElem_cons h];rfl
theorem kG {l m:List Int} {i:Nat} {x y:Int} (h:l.length=i):(l++x::m).set i y=l++y::m:=by subst h;simp
theorem sY {l:List Int} {n:Nat} (h:l.length=n+1):∃ l' x,l=l'++[x]/\l'.length=n:=by
 refine⟨l.take n,l[n],?_,ar⟩;rw[List.take_append_getElem,List.take_of_length_le aw]
theorem HT (a:List Int) (d:Int) (Q:List Int) (r:Int) (ha:Dig a) (hd:0<d/\d<4294967296) (hla:a.length<17592186044416) (hQ:Q=digs a.length (val a/d)) (hr:r=val a % d) :
  Fn Tryz.prog 243 [iL a,iU d] [iL Q,iU r]:=by
 refine aJ (fn:=Tryz.f243) ?_;simp -dsimp only[go_sem]
 repeat(refine And.intro aw ?_)
 refine a8 [(7,8),(15,38)] [] [(11,11)] (fun n τ β ε=>n<=a.length/\τ 8=aI ((n:Int)-1)/\∃ s,τ 7=aW s/\s=val (a.drop n) % d /\
   ∃(l m:List Int),ε 11=⟨1,1,(l++m).map bG,true,true⟩/\l.length=n/\(l++m).length=a.length/\Dig m/\val m=val (a.drop n)/d)
  (fun e τ β ε=>e = .exit 0/\τ 7=aW (val a % d)/\∃(m:List Int),ε 11=⟨1,1,m.map bG,true,true⟩/\m.length=a.length/\Dig m/\val m=val a/d) a.length ?_ ?_ ?_
 ·refine⟨aw,by simp[bT],0,by simp[bT],by simp[val],List.replicate a.length 0,[],?_,au,au,Dig.nil,?_⟩
  ·simp[bT,eV]
  ·simp[val]
 ·rintro n τ β ε π hK hKB hKE ⟨hn,h8,s,h7,hs,l,m,hE,hl,hlm,hD,hv⟩;have h0:τ 0=aL a:=hK 0 aH;have h1:τ 1=aU d:=hK 1 aH;have h6:τ 6 = .sl 11 1 a.length:=hK 6 aH;have hm0:=Int.emod_nonneg (val (a.drop n)) (b:=d) aw;have hm1:=Int.emod_lt_of_pos (val (a.drop n)) hd.1;rw[<-hs]at hm0 hm1;have hdm:=Int.emod_add_mul_ediv (val (a.drop n)) d;rw[<-hs,<-hv]at hdm;simp -dsimp only[go_sem,h0,h1,h6,h7,h8,hE];refine bi (fun h=>?_) (fun h=>?_)<;>simp -dsimp only[go_sem,h0,h1,h6,h7,h8,hE,hK,hKB,hKE]
  ·have hna:n-1<a.length:=aw;have hai:=ha.get hna;have hn1:n-1+1=n:=aw;have hvd:=cd hna;rw[hn1]at hvd;obtain⟨l,x,rfl,hl'⟩:=sY (l:=l) (n:=n-1) aw
   repeat(refine And.intro aw ?_)
   refine cf (n-1) aw hna ?_;simp -dsimp only[go_sem,h0,h1,h6,h7,h8,hE,hK,hKB,hKE];have e1:or64 (s*4294967296 % 18446744073709551616) (a[n-1] % 18446744073709551616)=s*4294967296+a[n-1]:=by
    rw[Int.emod_eq_of_lt aw aw,Int.emod_eq_of_lt aw aw];exact pZ aw hai
   have e2:d % 18446744073709551616=d:=aw;rw[e1,e2]
   repeat(refine And.intro aw ?_)
   refine cf (n-1) aw aw ?_;simp -dsimp only[go_sem,h0,h1,h6,h7,h8,hE,hK,hKB,hKE]
   repeat(refine And.intro aw ?_)
   have hq0:0<=(s*4294967296+a[n-1])/d:=Int.ediv_nonneg aw aw;have hq1:(s*4294967296+a[n-1])/d<4294967296:=Int.ediv_lt_of_lt_mul hd.1 aw;refine again (n-1) aw ?_;simp -dsimp only[go_sem,h0,h1,h6,h7,h8,hE,hK,hKB,hKE,e1,e2];have e3:(s*4294967296+a[n-1]).tdiv d=(s*4294967296+a[n-1])/d:=Int.tdiv_eq_ediv_of_nonneg aw;have e4:(s*4294967296+a[n-1]).tmod d=(s*4294967296+a[n-1]) % d:=Int.tmod_eq_emod_of_nonneg aw;have e5:val (a.drop (n-1))=d*(4294967296*val m)+(s*4294967296+a[n-1]):=by rw[hvd,<-hdm];grind
   have e6:((n:Int)-1).toNat=n-1:=aw;rw[e3,e4,Int.emod_eq_of_lt hq0 aw,Int.emod_eq_of_lt hq0 hq1,e6];refine⟨aw,ja aw,_,rfl,?_,l,(s*4294967296+a[n-1])/d::m,?_,hl',by simp at hlm ⊢;omega,Dig.cons.2 ⟨⟨hq0,hq1⟩,hD⟩,?_⟩
   ·rw[e5,Int.mul_add_emod_self_left]
   ·rw[List.append_assoc,List.singleton_append,kG hl']
   ·rw[e5,Int.mul_add_ediv_left _ _ aw];simp only[val];omega
  ·have:n=0:=aw;subst this;obtain rfl:l=[]:=List.eq_nil_of_length_eq_zero hl;simp only[List.drop_zero]at hs hv;exact⟨by rw[hs],m,rfl,by simpa using hlm,hD,hv⟩
 ·rintro e τ β ε π hK hKB hKE ⟨rfl,h7,m,hE,hlm,hD,hv⟩;have h6:τ 6 = .sl 11 1 a.length:=hK 6 aH;simp -dsimp only[go_sem,h6,h7,hE];obtain rfl:Q=m:=by rw[hQ];exact(iO hD hlm hv).symm
  rw[List.take_of_length_le (by simp[hlm]),<-hr];have hm0:=Int.emod_nonneg (val a) (b:=d) aw;have hm1:=Int.emod_lt_of_pos (val a) hd.1;rw[<-hr]at hm0 hm1;rw[Int.emod_eq_of_lt hm0 aw]
theorem zL {a b p:Nat} (hb:b<2 ^ p) (hs:a*2 ^ p+b<4294967296):((bw (b:Int) ||| bw ((a*2 ^ p:Nat):Int)).toNat:Int)=((a*2 ^ p+b:Nat):Int):=by
 unfold bw;rw[BitVec.toNat_or,BitVec.toNat_ofInt,BitVec.toNat_ofInt];have e1:(((a*2 ^ p:Nat):Int) % (2 ^ 32:Nat)).toNat=a*2 ^ p:=by
  rw[Int.emod_eq_of_lt aw aw,Int.toNat_natCast]
 have e2:((b:Int) % (2 ^ 32:Nat)).toNat=b:=aw;rw[e1,e2,Nat.or_comm,uo hb]
theorem BQ {x h:Int} {k:Nat} (hk:k<32) (hx:0<=x/\x<4294967296) (hh:0<=h/\h<2 ^ k) :
  ((bw h ||| bw (x*2 ^ k % 4294967296)).toNat:Int)=h+x*2 ^ k % 4294967296/\h+x*2 ^ k % 4294967296<4294967296:=by
 obtain⟨n,rfl⟩:=Int.eq_ofNat_of_zero_le hx.1;obtain⟨m,rfl⟩:=Int.eq_ofNat_of_zero_le hh.1;have e0:(4294967296:Nat)=2 ^ (32-k)*2 ^ k:=by rw[<-Nat.pow_add];rw[show 32-k+k=32 from by omega]
 have e1:n*2 ^ k % 4294967296=n % 2 ^ (32-k)*2 ^ k:=by rw[e0,Nat.mul_mod_mul_right]
 have e2:((n:Int)*2 ^ k % 4294967296)=((n % 2 ^ (32-k)*2 ^ k:Nat):Int):=by rw[<-e1];simp
 have hm:m<2 ^ k:=by have:=hh.2;exact_mod_cast this
 have hlt:n % 2 ^ (32-k)*2 ^ k+m<4294967296:=by
  have h1:n % 2 ^ (32-k)<2 ^ (32-k):=Nat.mod_lt _ (Nat.pow_pos aH);have h2:(n % 2 ^ (32-k)+1)*2 ^ k<=2 ^ (32-k)*2 ^ k:=Nat.mul_le_mul_right _ h1;rw[Nat.add_mul]at h2;omega
 rw[e2,zL hm hlt];omega
theorem Fr {P:Program} {T:TypeId} {x y:Operand} {k':IntKind} {a:Int} {k:Nat} {K:Value->Prop} (hk:k<64) (h:K (.int .u64 (a*2 ^ k % 18446744073709551616))):fp P .shl T x y (.int .u64 a) (.int k' (k:Int)) K:=by
 have e1:min ((k:Int).toNat) (IntKind.bits .u64)=k:=by simp[IntKind.bits];omega
 rw[za,e1,mZ];exact⟨aw,h⟩
theorem Fq {P:Program} {T:TypeId} {x y:Operand} {k':IntKind} {a:Int} {k:Nat} {K:Value->Prop} (hk:k<64) (h:K (.int .u64 (a/2 ^ k))):fp P .shr T x y (.int .u64 a) (.int k' (k:Int)) K:=by
 have e1:min ((k:Int).toNat) (IntKind.bits .u64)=k:=by simp[IntKind.bits];omega
 have e2:a.fdiv (2 ^ k)=a/2 ^ k:=Int.fdiv_eq_ediv_of_nonneg _ (Int.le_of_lt (Int.pow_pos aH));rw[lg,e1,e2];exact⟨aw,h⟩
theorem rX {P:Program} {T:TypeId} {x y:Operand} {k':IntKind} {a:Int} {k:Nat} {K:Value->Prop} (hk:k<32) (h:K (.int .u32 (a/2 ^ k))):fp P .shr T x y (.int .u32 a) (.int k' (k:Int)) K:=by
 have e1:min ((k:Int).toNat) (IntKind.bits .u32)=k:=by simp[IntKind.bits];omega
 have e2:a.fdiv (2 ^ k)=a/2 ^ k:=Int.fdiv_eq_ediv_of_nonneg _ (Int.le_of_lt (Int.pow_pos aH));rw[lg,e1,e2];exact⟨aw,h⟩
theorem DW {k:Nat} (hk:k<32):(1:Int)<=2 ^ k/\(2:Int) ^ k<=2147483648:=by
 refine⟨Int.pow_pos aH,?_⟩;have h:(2:Nat) ^ k<=2147483648:=ax (Nat.pow_le_pow_right aH (show k<=31 by omega)) aH;have e:((2 ^ k:Nat):Int)=(2:Int) ^ k:=au;rw[<-e];omega
theorem zt (a R:List Int) (k:Nat) (ha:Dig a) (hk:k<32) (hla:a.length<17592186044416) (hR:R=digs (a.length+1) (val a*2 ^ k)) :
  FnM Tryz.prog 255 [iL a,iN k] 1 (R.map bG):=by
 refine rS kd (fn:=Tryz.f255) av rfl rfl rfl av au av ?_;simp -dsimp only[go_sem]
 repeat(refine And.intro aw ?_)
 obtain⟨hp1,hp2⟩:=DW hk;refine a8 [(6,8),(15,39)] [] [(12,12)] (fun n τ β ε=>∃ i:Nat,n=a.length-i/\i<=a.length/\τ 15=aI i /\
   ∃(l:List Int) (h:Int),ε 12=⟨1,1,(l++h::List.replicate (a.length-i) 0).map bG,true,true⟩/\l.length=i/\Dig l/\0<=h/\h<2 ^ k/\val (l++[h])=val (a.take i)*2 ^ k)
  (fun e τ β ε=>e = .exit 0/\ε 12=⟨1,1,R.map bG,true,true⟩) a.length ?_ ?_ ?_
 ·refine⟨0,aw,aw,rfl,[],0,?_,rfl,Dig.nil,aw,aw,by simp[val]⟩;simp[bT,List.replicate_succ,bG]
 ·rintro n τ β ε π hK hKB hKE ⟨i,hn,hi,h15,l,h,hE,hl,hD,hh0,hh1,hv⟩;have h1:τ 1=aI k:=hK 1 aH;have h5:τ 5 = .sl 12 1 (a.length+1):=hK 5 aH;have h13:τ 13=aL a:=hK 13 aH;have h14:τ 14=aI a.length:=hK 14 aH;simp -dsimp only[go_sem,h1,h5,h13,h14,h15,hE];refine bi (fun hlt=>?_) (fun hlt=>?_)<;>simp -dsimp only[go_sem,h1,h5,h13,h14,h15,hE,hK,hKB,hKE]
  ·have hia:i<a.length:=aw;have hai:=ha.get hia;obtain⟨m,hm⟩:∃ m,a.length-i=m+1:=⟨a.length-i-1,aw⟩;refine aV hia ?_;simp -dsimp only[go_sem,h1,h5,h13,h14,h15,hE,hK,hKB,hKE];refine Fr aw ?_;have hw0:0<=a[i]*2 ^ k:=Int.mul_nonneg hai.1 aw;have hw1:a[i]*2 ^ k<4294967296*2 ^ k:=Int.mul_lt_mul_of_pos_right hai.2 aw;have e1:a[i] % 18446744073709551616*2 ^ k % 18446744073709551616=a[i]*2 ^ k:=by
    rw[Int.emod_eq_of_lt hai.1 aw,Int.emod_eq_of_lt hw0 aw]
   obtain⟨e2,e3⟩:=BQ hk hai ⟨hh0,hh1⟩;rw[e1,hm];rw[hm]at hE;have hil:i<(l++h::List.replicate (m+1) 0).length:=by simp;omega
   repeat(refine And.intro aw ?_)
   refine aV hil ?_;have e4:(l++h::List.replicate (m+1) 0)[i]=h:=by subst hl;simp
   rw[e4];simp -dsimp only[go_sem,h1,h5,h13,h14,h15,hE,hK,hKB,hKE,e2]
   repeat(refine And.intro aw ?_)
   refine aV hil ?_;simp -dsimp only[go_sem,h1,h5,h13,h14,h15,hE,hK,hKB,hKE,e2]
   repeat(refine And.intro aw ?_)
   refine aV ar ?_;simp -dsimp only[go_sem,h1,h5,h13,h14,h15,hE,hK,hKB,hKE,e2]
   repeat(refine And.intro aw ?_)
   refine again (a.length-(i+1)) aw ?_;simp -dsimp only[go_sem,h1,h5,h13,h14,h15,hE,hK,hKB,hKE,e1,e2];have hd0:a[i]*2 ^ k/4294967296<2 ^ k:=Int.ediv_lt_of_lt_mul aH (by rw[Int.mul_comm (2 ^ k)];exact hw1);refine⟨i+1,rfl,aw,rfl,l++[h+a[i]*2 ^ k % 4294967296],a[i]*2 ^ k/4294967296,?_,by simp[hl],hD.snoc aw,aw,hd0,?_⟩
   ·have e5:a.length-(i+1)=m:=aw;have e6:a[i]*2 ^ k/4294967296 % 4294967296=a[i]*2 ^ k/4294967296:=Int.emod_eq_of_lt aw aw;rw[e5,List.replicate_succ,e6];subst hl;simp
   ·rw[fq]at hv;rw[bM hia,fq,fq];simp only[List.length_append,List.length_singleton,hl]at hv ⊢;have e6:=Int.emod_add_mul_ediv (a[i]*2 ^ k) 4294967296;rw[Int.pow_succ];generalize a[i]*2 ^ k % 4294967296=u at *
    generalize a[i]*2 ^ k/4294967296=v at *
    grind
  ·have hia:i=a.length:=aw;subst hia;rw[List.take_length]at hv;have:R=l++[h]:=by
    rw[hR];exact(iO (hD.snoc aw) (by simp[hl]) hv).symm
   subst this;simp
 ·rintro e τ β ε π hK hKB hKE ⟨rfl,hE⟩;have h5:τ 5 = .sl 12 1 (a.length+1):=hK 5 aH;have hl:R.length=a.length+1:=by rw[hR,cP]
  simp -dsimp only[go_sem,h5,hE];refine⟨12,1,by rw[hl],aH,?_⟩;rw[hE];have:(List.map bG R).isEmpty=false:=by
   cases R with
   | nil=>simp at hl
   | cons _ _=>rfl
  rw[this];rfl
def Cr (s:ByteArray):Bool:=(List.range 256).all fun i=>match s.data[i]? with
 | some b=>(List.range 9).all fun L => !(decide (0<L) && decide (2 ^ (L-1)<=i) && decide (i<2 ^ L)) || decide (b.toNat=L)
 | none=>false
theorem z8 {s:ByteArray} (h:Cr s=true) {i:Nat} (hi:i<256):∃ b:UInt8,s.data[i]?=some b/\∀ L,L<9->0<L->2 ^ (L-1)<=i->i<2 ^ L->b.toNat=L:=by
 unfold Cr at h;rw[List.all_eq_true]at h;have:=h i (List.mem_range.2 hi);split at this
 ·rename_i b hb;refine⟨b,hb,fun L h1 h2 h3 h4=>?_⟩;rw[List.all_eq_true]at this;have:=this L (List.mem_range.2 h1);simpa [h2,h3,h4]using this
 ·simp at this
theorem pK {s:ByteArray} {K:Value->Prop} (h:K (.string s)):bj (mA (.string s)).pv K:=h
theorem yc {x L s:Nat} (h1:2 ^ (L-1)<=x) (h2:x<2 ^ L) (h3:2 ^ s<=x):s<L/\2 ^ (L-s-1)<=x/2 ^ s/\x/2 ^ s<2 ^ (L-s):=by
 have hs:s<L:=by
  rcases Nat.lt_or_ge s L with h|h
  ·exact h
  ·have:=Nat.pow_le_pow_right (n:=2) aH h;omega
 have hp:0<2 ^ s:=Nat.pow_pos aH;refine⟨hs,?_,?_⟩
 ·rw[Nat.le_div_iff_mul_le hp,<-Nat.pow_add,show L-s-1+s=L-1 from by omega];exact h1
 ·rw[Nat.div_lt_iff_lt_mul hp,<-Nat.pow_add,show L-s+s=L from by omega];exact h2
theorem xw {s:ByteArray} (hs:Cr s=true) {T:TypeId} (hu:Program.underlying Tryz.prog T=some .string) {y L:Nat} (hy:y<256) (hL:0<L) (h1:2 ^ (L-1)<=y) (h2:y<2 ^ L) {K:Value->Prop} (hK:K (.int .u8 (L:Int))) :
  ∃ z,ez Tryz.prog (Instr.index T (.string s) (.int .u8 (y:Int))) z/\z.oneCell'=true/\K z:=by
 obtain⟨b,hb,hb'⟩:=z8 hs hy;have hL9:L<9:=by
  rcases Nat.lt_or_ge L 9 with h|h
  ·exact h
  ·have:2 ^ 8<=2 ^ (L-1):=Nat.pow_le_pow_right (n:=2) aH aw;omega
 have:=hb' L hL9 hL h1 h2;refine⟨_,fun w=>?_,rfl,hK⟩;have hlt:y<s.size:=by
  have:=(Array.getElem?_eq_some_iff.1 hb).1;exact this
 rw[run_index_string _ _ _ _ _ hu,dif_pos ⟨aw,aw⟩];have e:s[(y:Int).toNat]'(by simpa using hlt)=b:=by
  have:=(Array.getElem?_eq_some_iff.1 hb).2;exact this
 rw[e,this]
theorem qQ {P:Program} {T:TypeId} {x y:Operand} {k':IntKind} {a:Nat} (k:Nat) {K:Value->Prop} (hk:k<32) (h:K (.int .u32 ((a/2 ^ k:Nat):Int))):fp P .shr T x y (.int .u32 (a:Int)) (.int k' (k:Int)) K:=by
 refine rX hk ?_;have e:((a:Int)/2 ^ k)=((a/2 ^ k:Nat):Int):=au;rw[e];exact h
theorem jr {n:Nat} (h:n<9223372036854775808):IntKind.wrap .i64 (n:Int)=n:=jQ _ aw aw
theorem uT {z z':Int} (h:z=z'):some [IV.c (C.v (.int .i64 z))]=some [iN z']:=by rw[h]
theorem Ks (x L:Nat) (hx:x<4294967296) (hL:0<L) (h1:2 ^ (L-1)<=x) (h2:x<2 ^ L):Fn Tryz.prog 238 [iU x] [iN L]:=by
 refine aJ (fn:=Tryz.f238) ?_;have hL33:L<33:=by
  rcases Nat.lt_or_ge L 33 with h|h
  ·exact h
  ·have:2 ^ 32<=2 ^ (L-1):=Nat.pow_le_pow_right (n:=2) aH aw;omega
 simp -dsimp only[go_sem];refine bi (fun h=>?_) (fun h=>?_)<;>simp -dsimp only[go_sem]
 ·refine qQ 16 aH ?_;obtain⟨q1,q2,q3⟩:=yc h1 h2 (s:=16) aw;have hb:x/2 ^ 16<65536:=aw;generalize x/2 ^ 16=y at *
  simp -dsimp only[go_sem];refine bi (fun h'=>?_) (fun h'=>?_)<;>simp -dsimp only[go_sem]
  ·refine qQ 8 aH ?_;obtain⟨r1,r2,r3⟩:=yc q2 q3 (s:=8) aw;have hb':y/2 ^ 8<256:=aw;generalize y/2 ^ 8=z at *
   simp -dsimp only[go_sem];refine⟨aw,pK ?_⟩;rw[show((z:Int) % 256)=z from by omega];refine xw aE av hb' aw r2 r3 ?_;simp -dsimp only[go_sem];rw[jr aw];refine⟨aw,uT aw⟩
  ·refine pK ?_;rw[show((y:Int) % 256)=y from by omega];refine xw aE av aw aw q2 q3 ?_;simp -dsimp only[go_sem];rw[jr aw];refine⟨aw,uT aw⟩
 ·refine bi (fun h'=>?_) (fun h'=>?_)<;>simp -dsimp only[go_sem]
  ·refine qQ 8 aH ?_;obtain⟨r1,r2,r3⟩:=yc h1 h2 (s:=8) aw;have hb':x/2 ^ 8<256:=aw;generalize x/2 ^ 8=z at *
   simp -dsimp only[go_sem];refine⟨aw,pK ?_⟩;rw[show((z:Int) % 256)=z from by omega];refine xw aE av hb' aw r2 r3 ?_;simp -dsimp only[go_sem];rw[jr aw];refine⟨aw,uT aw⟩
  ·refine pK ?_;rw[show((x:Int) % 256)=x from by omega];refine xw aE av aw hL h1 h2 ?_;simp -dsimp only[go_sem];rw[jr aw];refine⟨aw,uT aw⟩
theorem qJ (x k:Nat) (hx:x<4294967296) (hk:k<32) (h1:2147483648<=x*2 ^ k) (h2:x*2 ^ k<4294967296):Fn Tryz.prog 254 [iU x] [iN k]:=by
 refine aJ (fn:=Tryz.f254) ?_;simp -dsimp only[go_sem];have hp:0<2 ^ k:=Nat.pow_pos aH;refine aK (Ks x (32-k) hx aw ?_ ?_) ?_
 ·have:2 ^ (32-k-1)*2 ^ k=2147483648:=by rw[<-Nat.pow_add,show 32-k-1+k=31 from by omega]
  exact Nat.le_of_mul_le_mul_right aw hp
 ·have:2 ^ (32-k)*2 ^ k=4294967296:=by rw[<-Nat.pow_add,show 32-k+k=32 from by omega]
  exact Nat.lt_of_mul_lt_mul_right (a:=2 ^ k) aw
 simp -dsimp only[go_sem];refine⟨aw,uT aw⟩
theorem uL {W V v1 v2 V2 W2 top u2 p g rest q:Int} (hV:V=(v1*4294967296+v2)*p+V2) (hW:W=(top*4294967296+u2)*p+W2) (hp:0<p) (hV2:0<=V2) (hW2:W2<p)
  (hq:q*V<=W) (hqB:q<4294967296) (hinv:g*v1+rest=top) (hg:q<=g) (hg0:0<=g) (hc:4294967295<g\/rest*4294967296+u2<g*v2) (hV0:0<=V):q<=g-1:=by
 rcases Int.lt_or_le q g with h|h
 ·omega
 ·have hqg:q=g:=aw;subst hqg;rcases hc with hc|hc
  ·omega
  ·have h1:(rest*4294967296+u2+1)*p<=q*v2*p:=Int.mul_le_mul_of_nonneg_right aw aw;have h2:0<=q*V2:=Int.mul_nonneg hg0 hV2;have h3:q*V=(q*v1)*4294967296*p+q*v2*p+q*V2:=by rw[hV];grind
   have h4:q*v1=top-rest:=aw;rw[h4]at h3
   grind
theorem CC {W V v1 v2 V2 W2 top u2 p g rest q:Int} (hV:V=(v1*4294967296+v2)*p+V2) (hW:W=(top*4294967296+u2)*p+W2) (hp:0<p) (hV2:0<=V2/\V2<p) (hW2:0<=W2)
  (hq:W<(q+1)*V) (hinv:g*v1+rest=top) (hg0:0<=g) (hv1:1<=v1) (hv2:0<=v2) (hc:g<=4294967295) (hc':g*v2<=rest*4294967296+u2):g<=q+1:=by
 have h1:g*v2*p<=(rest*4294967296+u2)*p:=Int.mul_le_mul_of_nonneg_right hc' aw;have h3:g*V=(g*v1)*4294967296*p+g*v2*p+g*V2:=by rw[hV];grind
 have h4:g*v1=top-rest:=aw;rw[h4]at h3;have h5:g*V2<=4294967295*V2:=Int.mul_le_mul_of_nonneg_right hc hV2.1;have h6:1*(4294967296*p)<=v1*(4294967296*p):=Int.mul_le_mul_of_nonneg_right hv1 aw;have h7:0<=v2*p:=Int.mul_nonneg hv2 aw;have h8:(g-1)*V<=W:=by
  have e1:(g-1)*V=g*V-V:=by grind
  have e2:V=v1*(4294967296*p)+v2*p+V2:=by rw[hV];grind
  grind
 have hV0:0<V:=by
  have e2:V=v1*(4294967296*p)+v2*p+V2:=by rw[hV];grind
  omega
 have h9:g-1<q+1:=Int.lt_of_mul_lt_mul_right (Int.lt_of_le_of_lt h8 hq) aw;omega
theorem sw {W V v1 v2 V2 W2 top u2 p g rest q:Int} (hV:V=(v1*4294967296+v2)*p+V2) (hW:W=(top*4294967296+u2)*p+W2) (hp:0<p) (hV2:0<=V2/\V2<p) (hW2:0<=W2)
  (hq:W<(q+1)*V) (hinv:g*v1+rest=top) (hg0:0<=g) (hu2:0<=u2) (hv1:1<=v1) (hv2:0<=v2/\v2<4294967296) (hg:g<=4294967296) (hr:4294967296<=rest):g<=q:=by
 have h3:g*V=(g*v1)*4294967296*p+g*(v2*p+V2):=by rw[hV];grind
 have h4:g*v1=top-rest:=aw;rw[h4]at h3;have h5:(v2+1)*p<=4294967296*p:=Int.mul_le_mul_of_nonneg_right aw aw;have h6:g*(v2*p+V2)<=g*(4294967296*p):=Int.mul_le_mul_of_nonneg_left (by rw[Int.add_mul]at h5;omega) hg0;have h7:g*(4294967296*p)<=4294967296*(4294967296*p):=Int.mul_le_mul_of_nonneg_right hg aw;have h8:4294967296*(4294967296*p)<=rest*(4294967296*p):=Int.mul_le_mul_of_nonneg_right hr aw;have h9:0<=u2*p:=Int.mul_nonneg hu2 aw;have h10:g*V<=W:=by rw[hW];grind
 have hV0:0<V:=by
  have e2:V=v1*(4294967296*p)+v2*p+V2:=by rw[hV];grind
  have h6:1*(4294967296*p)<=v1*(4294967296*p):=Int.mul_le_mul_of_nonneg_right hv1 aw;have h7:0<=v2*p:=Int.mul_nonneg hv2.1 aw;omega
 have h11:g<q+1:=Int.lt_of_mul_lt_mul_right (Int.lt_of_le_of_lt h10 hq) aw;omega
end Go.AM
