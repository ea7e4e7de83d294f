/- Lemmas, part 10 of 24: The reference of integers: limbs, signs, comparing; The reference of integers: sums; The reference of integers: sums and products of integers; The reference of integers: division; The reference of integers: division. No condition. -/
import Derived.Test.YtcmfkhicjhliaaaGreatPZ208
set_option maxRecDepth 65536
set_option linter.unusedSimpArgs false
set_option linter.unusedVariables false
set_option linter.unusedSectionVars false
namespace Go.AM
open Go.Proofs
theorem repl0 {α:Type} (a:α):List.replicate 0 a=[]:=rfl
theorem arr2 (a b:Nat):(#[a,b]:Array Nat).size=2:=rfl
attribute [go_sem] repl0 arr2
theorem ni {P:Program} {kind:FuncId->CK} {c:Code} {Q:aK->St->Prop} {s:St} {τ:Nat->AV} {β:Nat->BX} {ε:Nat->EN} {π:Nat->MP} (hw:aY s ⟨τ,β,ε,π⟩) (h:lT P kind c Q ⟨τ,β,ε,π⟩ ⟨⟩):lT P kind c Q s ⟨⟩:=WP.weak hw h
theorem cX (l:List Int) (neg:Bool) (hd:Dig l) (hm:l.length<1099511627776):Fn Tryz.prog 162 [iL l,iB neg] [iZ (if neg then -val l else val l)]:=by
 refine ak (fn:=Tryz.f162) (by rfl) rfl rfl rfl (by rfl) ?_;simp -dsimp -implicitDefEqProofs only[go_sem];refine aJ [(5,5),(8,19)] [] [] (fun n τ β _=>n<=l.length/\trim l=trim (l.take n)/\τ 5=aI n)
  (fun e τ β _=>e = .exit 0/\τ 5=aI (trim l).length/\trim l=l.take (trim l).length/\(trim l).length<=l.length) l.length ?_ ?_ ?_
 ·exact⟨ae _,by rw[List.take_length],rfl⟩
 ·rintro n τ β ε π hK hKB hKE ⟨h1,h2,h5⟩;have h0:τ 0=aL l:=hK 0 (by decide);by_cases hn:0<(n:Int)
  ·have hs:l.take n=l.take (n-1)++[l[n-1]]:=by
    conv=>lhs;rw[show n=n-1+1 from by omega]
    rw[rV (by omega)]
   simp -dsimp -implicitDefEqProofs only[go_sem,h0,h5,hn]
   repeat(refine And.intro (by omega) ?_)
   refine bD (n-1) (by omega) (by omega) ?_;simp -dsimp -implicitDefEqProofs only[go_sem,h0,h5,hn];refine aO (fun hz=>?_) (fun hz=>?_)<;>simp -dsimp -implicitDefEqProofs only[go_sem,h0,h5,hn,hK,hKB,hKE]
   ·repeat(refine And.intro (by omega) ?_)
    refine again (n-1) (by omega) ?_;simp -dsimp -implicitDefEqProofs only[go_sem,h0,h5,hn,hK,hKB,hKE];refine⟨by omega,?_,ia (by omega)⟩;rw[h2,hs,hz,fV]
   ·have ht:trim l=l.take n:=by rw[h2,hs];exact pK _ _ hz
    have hl:(trim l).length=n:=by rw[ht];simp;omega
    rw[hl];exact⟨rfl,ht,h1⟩
  ·have hn0:n=0:=by omega
   subst hn0;simp -dsimp -implicitDefEqProofs only[go_sem,h0,h5,hn,hK,hKB,hKE];have ht:trim l=[]:=by rw[h2];rfl
   rw[ht];exact⟨rfl,rfl,by simp⟩
 ·rintro e τ β ε π hK hKB hKE ⟨rfl,h5,ht,hl⟩;have h0:τ 0=aL l:=hK 0 (by decide);have h1:τ 1=aB neg:=hK 1 (by decide);have h4:τ 4 = .bp 4 1 0:=hK 4 (by decide);have hb4:β 4=⟨1,kw false []⟩:=hKB 4 (by decide);have he29:ε 29=⟨0,0,[],false,false⟩:=hKE 29 (by decide);have key:=Mf (neg:=neg) hd;have e1:List.take (trim l).length (List.map bc l)=(trim l).map bc:=by rw[<-List.map_take,<-ht]
  have e2:min (trim l).length l.length=(trim l).length:=by omega
  cases neg with
  | true =>
   simp -dsimp -implicitDefEqProofs only[go_sem,h0,h1,h4,h5,hb4,he29,e1,e2];refine⟨hl,by omega,?_⟩;rw[List.take_of_length_le (by simp)];have e3:decide (0<((trim l).length:Int))=(true && decide (0<(trim l).length)):=by simp
   rw[e3];exact congrArg (fun c=>some [IV.g c]) key
  | false =>
   simp -dsimp -implicitDefEqProofs only[go_sem,h0,h1,h4,h5,hb4,he29,e1,e2];refine⟨hl,by omega,?_⟩;rw[List.take_of_length_le (by simp)];exact congrArg (fun c=>some [IV.g c]) key
theorem uf (n:Int) (h : -9223372036854775808<=n/\n<9223372036854775808):Fn Tryz.prog 121 [iN n] [iZ n]:=by
 refine ak (fn:=Tryz.f121) (by rfl) rfl rfl rfl (by rfl) ?_;simp -dsimp -implicitDefEqProofs only[go_sem];have key:∀(neg:Bool) (m:Int),0<=m->m<18446744073709551616->Fn Tryz.prog 162 [iL [m % 4294967296,m/4294967296 % 4294967296],iB neg] [iZ (if neg then -m else m)]:=by
  intro neg m h0 h1;have hv:val [m % 4294967296,m/4294967296 % 4294967296]=m:=by simp only[val];omega
  have:=cX [m % 4294967296,m/4294967296 % 4294967296] neg (Dig.cons.2 ⟨by omega,Dig.cons.2 ⟨by omega,Dig.nil⟩⟩) (by simp);rwa [hv]at this
 refine aO (fun h'=>?_) (fun h'=>?_)<;>simp -dsimp -implicitDefEqProofs only[go_sem,h']
 ·refine an (key true ((0-n % 18446744073709551616) % 18446744073709551616) (by omega) (by omega)) ?_;simp -dsimp -implicitDefEqProofs only[go_sem];refine jR ?_;omega
 ·refine an (key false (n % 18446744073709551616) (by omega) (by omega)) ?_;simp -dsimp -implicitDefEqProofs only[go_sem];refine jR ?_;omega
theorem ib (z:Int):Fn Tryz.prog 142 [iZ z] [iN z.sign]:=by
 refine ak (fn:=Tryz.f142) (by rfl) rfl rfl rfl (by rfl) ?_;by_cases h0:z=0
 ·subst h0;simp -dsimp -implicitDefEqProofs only[go_sem,fo.2 rfl];rw[show(decide (((0:Nat):Int)=0))=true from rfl];simp -dsimp -implicitDefEqProofs only[go_sem];rfl
 ·simp -dsimp -implicitDefEqProofs only[go_sem];rw[sX h0];by_cases h:z<0
  ·simp -dsimp -implicitDefEqProofs only[go_sem,h];rw[Int.sign_eq_neg_one_of_neg h]
  ·simp -dsimp -implicitDefEqProofs only[go_sem,h];rw[Int.sign_eq_one_of_pos (by omega)]
theorem lv (z:Int) (hl:(lb z).length<1099511627776):Fn Tryz.prog 201 [iZ z] [iZ (-z)]:=by
 refine ak (fn:=Tryz.f201) (by rfl) rfl rfl rfl (by rfl) ?_;simp -dsimp -implicitDefEqProofs only[go_sem];refine an (cX (lb z) (!decide (z<0)) (bC z) hl) ?_;simp -dsimp -implicitDefEqProofs only[go_sem];refine jR ?_;rw[a6];by_cases h:z<0<;>simp[h]<;>omega
theorem rt (a b:Int) (hl:(lb a).length<1099511627776):Fn Tryz.prog 179 [iL (lb a),iL (lb b)] [iB (decide ((a.natAbs:Int)<b.natAbs))]:=by
 have ha:=bC a;have hb:=bC b;have hva:=a6 a;have hvb:=a6 b;rw[<-hva,<-hvb];refine ak (fn:=Tryz.f179) (by rfl) rfl rfl rfl (by rfl) ?_;by_cases hlen:(lb a).length=(lb b).length
 ·have hd:decide (((lb a).length:Int)=((lb b).length:Int))=true:=ai (by omega);simp -dsimp -implicitDefEqProofs only[go_sem,hd];refine⟨by omega,?_⟩;refine aJ [(4,5),(19,40)] [] [] (fun n τ β _=>n<=(lb a).length/\(lb a).drop n=(lb b).drop n/\τ 5=aI ((n:Int)-1))
   (fun e τ β _=>(e = .exit 0/\lb a=lb b)\/(e = .ret/\τ 4=aB (decide (val (lb a)<val (lb b))))) (lb a).length ?_ ?_ ?_
  ·refine⟨ae _,?_,by simp[bB]⟩;rw[List.drop_of_length_le (ae _),List.drop_of_length_le (by omega)]
  ·rintro n τ β ε π hK hKB hKE ⟨h1,h2,h5⟩;have h0:τ 0=aL (lb a):=hK 0 (by decide);have h1':τ 1=aL (lb b):=hK 1 (by decide);simp -dsimp -implicitDefEqProofs only[go_sem,h0,h1',h5];refine aO (fun h=>?_) (fun h=>?_)<;>simp -dsimp -implicitDefEqProofs only[go_sem,h0,h1',h5,hK,hKB,hKE]
   ·have d1:(lb a).drop (n-1)=(lb a)[n-1]::(lb a).drop n:=by rw[List.drop_eq_getElem_cons (by omega)];congr 2;omega
    have d2:(lb b).drop (n-1)=(lb b)[n-1]::(lb b).drop n:=by rw[List.drop_eq_getElem_cons (by omega)];congr 2;omega
    refine ao (by rfl) 9 [] false true (by rfl) (by rfl) (by decide +kernel) ?_;simp -dsimp -implicitDefEqProofs only[go_sem,h0,h1',h5,hK,hKB,hKE]
    repeat(refine And.intro (by omega) ?_)
    refine bD (n-1) (by omega) (by omega) ?_;simp -dsimp -implicitDefEqProofs only[go_sem,h0,h1',h5,hK,hKB,hKE]
    repeat(refine And.intro (by omega) ?_)
    refine bD (n-1) (by omega) (by omega) ?_;simp -dsimp -implicitDefEqProofs only[go_sem,h0,h1',h5,hK,hKB,hKE];by_cases he:(lb a)[n-1]=(lb b)[n-1]
    ·simp -dsimp -implicitDefEqProofs only[go_sem,h0,h1',h5,hK,hKB,hKE,he]
     repeat(refine And.intro (by omega) ?_)
     refine again (n-1) (by omega) ?_;simp -dsimp -implicitDefEqProofs only[go_sem,h0,h1',h5,hK,hKB,hKE];exact⟨by omega,by rw[d1,d2,h2,he],ia (by omega)⟩
    ·simp -dsimp -implicitDefEqProofs only[go_sem,h0,h1',h5,hK,hKB,hKE,he];refine ao (by rfl) 10 [] false true (by rfl) (by rfl) (by decide +kernel) ?_;simp -dsimp -implicitDefEqProofs only[go_sem,h0,h1',h5,hK,hKB,hKE]
     repeat(refine And.intro (by omega) ?_)
     refine bD (n-1) (by omega) (by omega) ?_;simp -dsimp -implicitDefEqProofs only[go_sem,h0,h1',h5,hK,hKB,hKE]
     repeat(refine And.intro (by omega) ?_)
     refine bD (n-1) (by omega) (by omega) ?_;simp -dsimp -implicitDefEqProofs only[go_sem,h0,h1',h5,hK,hKB,hKE];have hn:n-1+1=n:=by omega
     refine congrArg aB ?_;rw[decide_eq_decide];rcases Int.lt_or_lt_of_ne he with h6|h6
     ·have:=wU ha hb (i:=n-1) (by omega) (by omega) (by rw[hn];exact h2) h6;exact⟨fun _=>this,fun _=>h6⟩
     ·have:=wU hb ha (i:=n-1) (by omega) (by omega) (by rw[hn];exact h2.symm) h6;exact⟨fun h=>by omega,fun h=>by omega⟩
   ·have:n=0:=by omega
    subst this;simpa using h2
  ·rintro e τ β ε π hK hKB hKE (⟨rfl,h⟩|⟨rfl,h⟩)
   ·simp -dsimp -implicitDefEqProofs only[go_sem];rw[h];simp
   ·simp -dsimp -implicitDefEqProofs only[go_sem,h]
 ·have hd:decide (((lb a).length:Int)=((lb b).length:Int))=false:=aj (by omega);simp -dsimp -implicitDefEqProofs only[go_sem,hd];refine congrArg (fun x=>some [iB x]) ?_;rw[decide_eq_decide];rcases Nat.lt_or_gt_of_ne hlen with h1|h1
  ·have:=rE ha hb (qK b) h1;exact⟨fun _=>this,fun _=>by omega⟩
  ·have:=rE hb ha (qK a) h1;exact⟨fun h=>by omega,fun h=>by omega⟩
theorem ud (a b:Int) (hla:(lb a).length<1099511627776) (hlb:(lb b).length<1099511627776):Fn Tryz.prog 164 [iZ a,iZ b] [iB (decide (a=b))]:=by
 refine ak (fn:=Tryz.f164) (by rfl) rfl rfl rfl (by rfl) ?_;have key:∀{x:Bool},x=decide (a=b)->some [iB x]=some [iB (decide (a=b))]:=fun h=>by rw[h]
 by_cases hs:(a<0)↔(b<0)
 ·have hd:(decide (a<0) == decide (b<0))=true:=by simp[hs]
  simp -dsimp -implicitDefEqProofs only[go_sem,hd];refine an (rt a b hla) ?_;by_cases h1:(a.natAbs:Int)<b.natAbs
  ·simp -dsimp -implicitDefEqProofs only[go_sem,h1];exact key (by rw[eq_comm,decide_eq_false_iff_not];omega)
  ·simp -dsimp -implicitDefEqProofs only[go_sem,h1];refine an (rt b a hlb) ?_;by_cases h2:(b.natAbs:Int)<a.natAbs
   ·simp -dsimp -implicitDefEqProofs only[go_sem,h2];exact key (by rw[eq_comm,decide_eq_false_iff_not];omega)
   ·simp -dsimp -implicitDefEqProofs only[go_sem,h2];exact key (by rw[eq_comm,decide_eq_true_iff];omega)
 ·have hd:(decide (a<0) == decide (b<0))=false:=by simp;omega
  simp -dsimp -implicitDefEqProofs only[go_sem,hd];exact key (by rw[eq_comm,decide_eq_false_iff_not];rintro rfl;simp at hs)
theorem ru {z:Int} (h:z≠0) (hi:(lb z).length-1<(lb z).length):(lb z)[(lb z).length-1]≠0:=by
 have h1:=qK z;intro h0;have hne:lb z≠[]:=by intro e;exact h (fo.1 (by rw[e];rfl))
 have h2:lb z=(lb z).take ((lb z).length-1)++[0]:=by
  rw[<-h0,List.take_append_getElem,List.take_of_length_le (by omega)]
 have h3:=fV ((lb z).take ((lb z).length-1));rw[<-h2]at h3;have h4:=Cg ((lb z).take ((lb z).length-1));rw[<-h3]at h4;unfold Tr at h1;rw[h1]at h4;simp only[List.length_take]at h4;omega
theorem vB (a:Int) (hla:(lb a).length<1099511627776):Fn Tryz.prog 163 [iZ a] [iB true]:=by
 refine ak (fn:=Tryz.f163) (by rfl) rfl rfl rfl (by rfl) ?_;by_cases h0:a=0
 ·subst h0;simp -dsimp -implicitDefEqProofs only[go_sem,fo.2 rfl];rw[show(decide (((0:Nat):Int)=0))=true from rfl];simp -dsimp -implicitDefEqProofs only[go_sem];rfl
 ·simp -dsimp -implicitDefEqProofs only[go_sem];rw[sX h0];have hl:(lb a).length≠0:=fun e=>h0 (fo.1 e);simp -dsimp -implicitDefEqProofs only[go_sem];refine⟨by omega,by omega,bD ((lb a).length-1) (by omega) (by omega) ?_⟩;have:=ru h0 (by omega);simp -dsimp -implicitDefEqProofs only[go_sem,this]
  try rfl
theorem hO (L:List Int) (d:Int):L.map bc++[bc d]=(L++[d]).map bc:=by simp
def Own (sz:Nat) (rs:List (List C)) (n k:Nat) (τ:Nat->AV) (ε:Nat->EN):Prop:=∃ g mm,0<g/\τ n = .sl k g rs.length/\ε k=⟨g,sz,rs,mm,true⟩
theorem Own.mk {sz:Nat} {rs:List (List C)} {n k g len:Nat} {τ:Nat->AV} {ε:Nat->EN} {mm:Bool} (hg:0<g) (h:τ n = .sl k g len) (hl:len=rs.length) (he:ε k=⟨g,sz,rs,mm,true⟩):Own sz rs n k τ ε:=⟨g,mm,hg,by rw[h,hl],he⟩
theorem Own.mk2 {sz:Nat} {rs rs':List (List C)} {n k g len:Nat} {τ:Nat->AV} {ε:Nat->EN} {mm:Bool} (hg:0<g) (h:τ n = .sl k g len) (he:ε k=⟨g,sz,rs',mm,true⟩) (hl:len=rs'.length) (hr:rs'=rs):Own sz rs n k τ ε:=⟨g,mm,hg,by rw[h,hl,hr],by rw[he,hr]⟩
theorem gZ {L:List Int} {e d:Int} (h:e=d):L.map bc++[[C.v (.int .u32 e)]]=(L++[d]).map bc:=by simp[h,bc]
theorem bL {P:Program} {kind:FuncId->CK} {c:Code} {Q:aK->St->Prop} (n k sz:Nat) {rs:List (List C)} {τ:Nat->AV} {β:Nat->BX} {ε:Nat->EN} {π:Nat->MP} (h:τ n = .fl rs) (hsz:∀ r∈rs,r.length=sz)
  (H:lT P kind c Q ⟨upd τ n (.sl k ((ε k).gen+1) rs.length),β,upd ε k ⟨(ε k).gen+1,sz,rs,false,true⟩,π⟩ ⟨⟩):lT P kind c Q ⟨τ,β,ε,π⟩ ⟨⟩ :=
 WP.weak (aY.thaw ⟨τ,β,ε,π⟩ n k h hsz) H
theorem aH {I:Nat->(Nat->AV)->(Nat->BX)->(Nat->EN)->Prop} {n:Nat} (m n0 k d:Nat) {g len:Nat} {τ:Nat->AV} {β:Nat->BX} {ε:Nat->EN} {π:Nat->MP} (hm:m<n) (h:τ n0 = .sl k g len) (hg:(ε k).gen=g) (hg0:0<g) (hkd:k≠d)
  (hI:I m (upd τ n0 (.sl d ((ε d).gen+1) len)) β (upd (upd ε k ⟨(ε k).gen+1,0,[],false,false⟩) d { ε k with gen:=(ε d).gen+1 })):uB I n ⟨τ,β,ε,π⟩ :=
 tX m (aY.rekey ⟨τ,β,ε,π⟩ n0 k d h hg hg0 hkd) hm hI
theorem repl1 {α:Type} (a:α):List.replicate 1 a=[a]:=rfl
theorem repl2 {α:Type} (a:α):List.replicate 2 a=[a,a]:=rfl
theorem repl3 {α:Type} (a:α):List.replicate 3 a=[a,a,a]:=rfl
theorem set0 {α:Type} (a x:α) (l:List α):(a::l).set 0 x=x::l:=rfl
theorem set1 {α:Type} (a b x:α) (l:List α):(a::b::l).set 1 x=a::x::l:=rfl
theorem set2 {α:Type} (a b c x:α) (l:List α):(a::b::c::l).set 2 x=a::b::x::l:=rfl
theorem vY {α β:Type} (L:List α) (f:α->β):(L.map f).take L.length=L.map f:=by rw[List.take_of_length_le (by simp)]
attribute [go_sem] repl1 repl2 repl3 set0 set1 set2 vY
def dg (l:List Int) (i:Nat):Int:=l.getD i 0
theorem nJ {l:List Int} {i:Nat} (h:i<l.length):dg l i=l[i]:=by simp[dg,h]
theorem mF {l:List Int} {i:Nat} (h:l.length<=i):dg l i=0:=by simp[dg,h]
theorem tP {l:List Int} (hd:Dig l) (i:Nat):0<=dg l i/\dg l i<4294967296:=by
 by_cases h:i<l.length
 ·rw[nJ h];exact hd.get h
 ·rw[mF (by omega)];omega
theorem dO (l:List Int) (i:Nat):val (l.take (i+1))=val (l.take i)+4294967296 ^ i*dg l i:=by
 by_cases h:i<l.length
 ·rw[nJ h,bm h]
 ·rw[mF (by omega),List.take_of_length_le (by omega),List.take_of_length_le (by omega)];simp
def iI (a b:List Int):Nat:=if val a+val b<4294967296 ^ (max a.length b.length)then max a.length b.length else max a.length b.length+1
structure vI (a b:List Int) (i:Nat) (L:List Int) (c:Int):Prop where
 hi:i<=max a.length b.length+1
 c0:0<=c
 c1:c<=1
 hl:L.length=i
 hd:Dig L
 hv:val L+4294967296 ^ i*c=val (a.take i)+val (b.take i)
 he:i=max a.length b.length+1->c=0/\4294967296 ^ max a.length b.length<=val a+val b
theorem PA {P L c A B x y:Int} (h:L+P*c=A+B):L+P*((c+x+y) % 4294967296)+P*4294967296*((c+x+y)/4294967296)=A+P*x+(B+P*y):=by
 have:=Int.emod_add_mul_ediv (c+x+y) 4294967296
 grind
theorem vI.step {a b:List Int} {i:Nat} {L:List Int} {c:Int} (ha:Dig a) (hb:Dig b) (h:vI a b i L c) (hc:i<a.length\/i<b.length\/0<c) :
  i<max a.length b.length+1/\vI a b (i+1) (L++[(c+dg a i+dg b i) % 4294967296]) ((c+dg a i+dg b i)/4294967296):=by
 obtain⟨hi,c0,c1,hl,hd,hv,he⟩:=h;have b1:=tP ha i;have b2:=tP hb i;have hlt:i<max a.length b.length+1:=by
  refine Nat.lt_of_le_of_ne hi fun e=>?_;have:=(he e).1;omega
 refine⟨hlt,by omega,by omega,by omega,by simp[hl],hd.snoc (by omega),?_,fun e=>?_⟩
 ·rw[d8,hl,dO,dO,Int.pow_succ];exact PA hv
 ·have e1:i=max a.length b.length:=by omega
  have e2:dg a i=0:=mF (by omega);have e3:dg b i=0:=mF (by omega);have e4:c=1:=by omega
  rw[e2,e3,e4];refine⟨by decide,?_⟩;rw[List.take_of_length_le (by omega),List.take_of_length_le (by omega),e4]at hv;have:=aQ hd;rw[<-e1];omega
theorem vI.done {a b:List Int} {i:Nat} {L:List Int} {c:Int} (h:vI a b i L c) (h1:¬ i<a.length) (h2:¬ i<b.length) (h3:¬ 0<c):L=digs (iI a b) (val a+val b):=by
 obtain⟨hi,c0,c1,hl,hd,hv,he⟩:=h;have e:c=0:=by omega
 subst e;rw[List.take_of_length_le (by omega),List.take_of_length_le (by omega)]at hv;have hv':val L=val a+val b:=by omega
 refine gT hd ?_ hv';rw[hl,iI];have:=dC hd;rw[hv',hl]at this;split
 ·rename_i hlt;by_cases e1:i=max a.length b.length+1
  ·have:=(he e1).2;omega
  ·omega
 ·rename_i hge;by_cases e1:i=max a.length b.length
  ·rw[e1]at this;omega
  ·omega
theorem ID (a b:List Int) (ha:Dig a) (hb:Dig b) (hla:a.length<4398046511104) (hlb:b.length<4398046511104):Fn Tryz.prog 178 [iL a,iL b] [iL (digs (iI a b) (val a+val b))]:=by
 refine ak (fn:=Tryz.f178) (by rfl) rfl rfl rfl (by rfl) ?_;simp -dsimp -implicitDefEqProofs only[go_sem];refine bL 5 5 1 rfl (by simp) ?_;refine aS [(5,7),(9,53)] [] [(5,5),(51,51)] (fun m τ β ε=>∃(i:Nat) (L:List Int) (c:Int),m=max a.length b.length+1-i/\τ 7=aI i/\τ 6=aW c/\vI a b i L c/\Own 1 (L.map bc) 5 5 τ ε)
  (fun e τ β ε=>e = .exit 0/\Own 1 ((digs (iI a b) (val a+val b)).map bc) 5 5 τ ε) (max a.length b.length+1) ?_ ?_ ?_
 ·refine⟨0,[],0,rfl,rfl,rfl,⟨by omega,by omega,by omega,rfl,Dig.nil,rfl,fun h=>by omega⟩,?_⟩;exact Own.mk (g:=1) (mm:=false) (by omega) rfl rfl rfl
 ·rintro m τ β ε π hK hKB hKE ⟨i,L,c,hm,h7,h6,hI,g,mm,hg,h5,he⟩;have h0:τ 0=aL a:=hK 0 (by decide);have h1:τ 1=aL b:=hK 1 (by decide);have c0:=hI.c0;have c1:=hI.c1;have hi:=hI.hi;have hl:=hI.hl;rw[af]at h5;by_cases hA:(i:Int)<a.length
  ·obtain⟨hi',hS⟩:=hI.step ha hb (by omega);have ba:=ha.get (i:=i) (by omega);by_cases hB:(i:Int)<b.length
   ·have bb:=hb.get (i:=i) (by omega);rw[nJ (by omega),nJ (by omega)]at hS;simp -dsimp -implicitDefEqProofs only[go_sem,h0,h1,h5,h6,h7,he,hA,hB,hO]
    repeat(refine And.intro (by omega) ?_)
    refine ay (by omega) ?_;simp -dsimp -implicitDefEqProofs only[go_sem,h0,h1,h5,h6,h7,he,hA,hB,hO]
    repeat(refine And.intro (by omega) ?_)
    refine ay (by omega) ?_;simp -dsimp -implicitDefEqProofs only[go_sem,h0,h1,h5,h6,h7,he,hA,hB,hO]
    repeat(refine And.intro (by omega) ?_)
    refine aH (max a.length b.length+1-(i+1)) 5 51 5 (by omega) rfl rfl (by omega) (by decide) ⟨?_,?_,?_,i+1,_,_,rfl,?_,?_,hS,?_⟩
    ·exact(by(repeat apply am rfl);exact hK)
    ·exact hKB
    ·exact(by(repeat apply am rfl);exact hKE)
    ·simp -dsimp -implicitDefEqProofs only[go_sem]
    ·simp -dsimp -implicitDefEqProofs only[go_sem];exact vx (by rw[Int.tdiv_eq_ediv_of_nonneg (by omega)];omega)
    ·exact Own.mk2 (Nat.succ_pos _) (by simp -dsimp -implicitDefEqProofs only[go_sem];rfl) (by simp -dsimp -implicitDefEqProofs only[go_sem];rfl) (by simp) (gZ (by omega))
   ·rw[nJ (by omega),mF (by omega)]at hS;simp -dsimp -implicitDefEqProofs only[go_sem,h0,h1,h5,h6,h7,he,hA,hB,hO]
    repeat(refine And.intro (by omega) ?_)
    refine ay (by omega) ?_;simp -dsimp -implicitDefEqProofs only[go_sem,h0,h1,h5,h6,h7,he,hA,hB,hO]
    repeat(refine And.intro (by omega) ?_)
    refine aH (max a.length b.length+1-(i+1)) 5 51 5 (by omega) rfl rfl (by omega) (by decide) ⟨?_,?_,?_,i+1,_,_,rfl,?_,?_,hS,?_⟩
    ·exact(by(repeat apply am rfl);exact hK)
    ·exact hKB
    ·exact(by(repeat apply am rfl);exact hKE)
    ·simp -dsimp -implicitDefEqProofs only[go_sem]
    ·simp -dsimp -implicitDefEqProofs only[go_sem];exact vx (by rw[Int.tdiv_eq_ediv_of_nonneg (by omega)];omega)
    ·exact Own.mk2 (Nat.succ_pos _) (by simp -dsimp -implicitDefEqProofs only[go_sem];rfl) (by simp -dsimp -implicitDefEqProofs only[go_sem];rfl) (by simp) (gZ (by omega))
  ·by_cases hB:(i:Int)<b.length
   ·obtain⟨hi',hS⟩:=hI.step ha hb (by omega);have bb:=hb.get (i:=i) (by omega);rw[mF (by omega),nJ (by omega)]at hS;simp -dsimp -implicitDefEqProofs only[go_sem,h0,h1,h5,h6,h7,he,hA,hB,hO]
    repeat(refine And.intro (by omega) ?_)
    refine ay (by omega) ?_;simp -dsimp -implicitDefEqProofs only[go_sem,h0,h1,h5,h6,h7,he,hA,hB,hO]
    repeat(refine And.intro (by omega) ?_)
    refine aH (max a.length b.length+1-(i+1)) 5 51 5 (by omega) rfl rfl (by omega) (by decide) ⟨?_,?_,?_,i+1,_,_,rfl,?_,?_,hS,?_⟩
    ·exact(by(repeat apply am rfl);exact hK)
    ·exact hKB
    ·exact(by(repeat apply am rfl);exact hKE)
    ·simp -dsimp -implicitDefEqProofs only[go_sem]
    ·simp -dsimp -implicitDefEqProofs only[go_sem];exact vx (by rw[Int.tdiv_eq_ediv_of_nonneg (by omega)];omega)
    ·exact Own.mk2 (Nat.succ_pos _) (by simp -dsimp -implicitDefEqProofs only[go_sem];rfl) (by simp -dsimp -implicitDefEqProofs only[go_sem];rfl) (by simp) (gZ (by omega))
   ·by_cases hC:0<c
    ·obtain⟨hi',hS⟩:=hI.step ha hb (by omega);rw[mF (by omega),mF (by omega)]at hS;simp -dsimp -implicitDefEqProofs only[go_sem,h0,h1,h5,h6,h7,he,hA,hB,hC,hO]
     repeat(refine And.intro (by omega) ?_)
     refine aH (max a.length b.length+1-(i+1)) 5 51 5 (by omega) rfl rfl (by omega) (by decide) ⟨?_,?_,?_,i+1,_,_,rfl,?_,?_,hS,?_⟩
     ·exact(by(repeat apply am rfl);exact hK)
     ·exact hKB
     ·exact(by(repeat apply am rfl);exact hKE)
     ·simp -dsimp -implicitDefEqProofs only[go_sem]
     ·simp -dsimp -implicitDefEqProofs only[go_sem];exact vx (by rw[Int.tdiv_eq_ediv_of_nonneg (by omega)];omega)
     ·exact Own.mk2 (Nat.succ_pos _) (by simp -dsimp -implicitDefEqProofs only[go_sem];rfl) (by simp -dsimp -implicitDefEqProofs only[go_sem];rfl) (by simp) (gZ (by omega))
    ·simp -dsimp -implicitDefEqProofs only[go_sem,h0,h1,h5,h6,h7,he,hA,hB,hC];rw[<-hI.done (by omega) (by omega) hC];refine⟨(by(repeat apply am rfl);exact hK),hKB,hKE,?_⟩
     exact Own.mk2 hg h5 he (by simp) rfl
 ·rintro e τ β ε π hK hKB hKE ⟨rfl,g,mm,hg,h5,he⟩;refine⟨_,aY.freeze _ 5,?_⟩;simp -dsimp -implicitDefEqProofs only[go_sem,h5,he,hg]
structure oq (a b:List Int) (i:Nat) (L:List Int) (c:Int):Prop where
 hi:i<=a.length
 c0:0<=c
 c1:c<=1
 hl:L.length=i
 hd:Dig L
 hv:val L+val (b.take i)=val (a.take i)+4294967296 ^ i*c
theorem PB {P L c A B x y d:Int} (h:L+B=A+P*c) (e:d=x-c-y):L+P*d+(B+P*y)=A+P*x:=by
 subst e;grind
theorem NW {P L c A B x y d:Int} (h:L+B=A+P*c) (e:d=x-c-y+4294967296):L+P*d+(B+P*y)=A+P*x+P*4294967296*1:=by
 subst e;grind
theorem oq.step {a b:List Int} {i:Nat} {L:List Int} {c:Int} (ha:Dig a) (hb:Dig b) (h:oq a b i L c) (hc:i<a.length) :
  (0<=dg a i-c-dg b i->oq a b (i+1) (L++[dg a i-c-dg b i]) 0)/\(dg a i-c-dg b i<0->oq a b (i+1) (L++[dg a i-c-dg b i+4294967296]) 1):=by
 obtain⟨hi,c0,c1,hl,hd,hv⟩:=h;have b1:=tP ha i;have b2:=tP hb i;refine⟨fun h=>⟨by omega,by omega,by omega,by simp[hl],hd.snoc (by omega),?_⟩,fun h=>⟨by omega,by omega,by omega,by simp[hl],hd.snoc (by omega),?_⟩⟩
 ·rw[d8,hl,dO,dO,Int.mul_zero,Int.add_zero];exact PB hv rfl
 ·rw[d8,hl,dO,dO,Int.pow_succ];exact NW hv rfl
theorem oq.done {a b:List Int} {i:Nat} {L:List Int} {c:Int} (h:oq a b i L c) (hlb:b.length<=a.length) (hle:val b<=val a) (h1:¬ i<a.length):L=digs a.length (val a-val b):=by
 obtain⟨hi,c0,c1,hl,hd,hv⟩:=h;have e:i=a.length:=by omega
 rw[List.take_of_length_le (by omega),List.take_of_length_le (by omega)]at hv;have h2:=dC hd;rw[hl]at h2;have:c=0:=by
  by_cases h3:c=0
  ·exact h3
  ·have h4:c=1:=by omega
   rw[h4]at hv;omega
 rw[this]at hv;exact gT hd (by omega) (by omega)
theorem vF (a b:List Int) (ha:Dig a) (hb:Dig b) (hla:a.length<4398046511104) (hlb:b.length<=a.length) (hle:val b<=val a):Fn Tryz.prog 180 [iL a,iL b] [iL (digs a.length (val a-val b))]:=by
 refine ak (fn:=Tryz.f180) (by rfl) rfl rfl rfl (by rfl) ?_;simp -dsimp -implicitDefEqProofs only[go_sem];refine bL 5 5 1 rfl (by simp) ?_;refine aS [(5,8),(10,42)] [] [(5,5),(42,42)] (fun m τ β ε=>∃(i:Nat) (L:List Int) (c:Int),m=a.length-i/\τ 7=aI i/\τ 6=aI c/\oq a b i L c/\Own 1 (L.map bc) 5 5 τ ε)
  (fun e τ β ε=>e = .exit 0/\Own 1 ((digs a.length (val a-val b)).map bc) 5 5 τ ε) a.length ?_ ?_ ?_
 ·refine⟨0,[],0,rfl,rfl,rfl,⟨by omega,by omega,by omega,rfl,Dig.nil,rfl⟩,?_⟩;exact Own.mk (g:=1) (mm:=false) (by omega) rfl rfl rfl
 ·rintro m τ β ε π hK hKB hKE ⟨i,L,c,hm,h7,h6,hI,g,mm,hg,h5,he⟩;have h0:τ 0=aL a:=hK 0 (by decide);have h1:τ 1=aL b:=hK 1 (by decide);have c0:=hI.c0;have c1:=hI.c1;have hi:=hI.hi;have hl:=hI.hl;rw[af]at h5;by_cases hA:(i:Int)<a.length
  ·have hS:=hI.step ha hb (by omega);have ba:=ha.get (i:=i) (by omega);have b2:=tP hb i;rw[nJ (l:=a) (by omega)]at hS;have e1:=oB a[i] (by omega) (by omega);by_cases hB:(i:Int)<b.length
   ·have bb:=hb.get (i:=i) (by omega);have e2:=oB b[i] (by omega) (by omega);rw[nJ (l:=b) (by omega)]at hS;by_cases hN:a[i]-c-b[i]<0
    ·simp -dsimp -implicitDefEqProofs only[go_sem,h0,h1,h5,h6,h7,he,hA,hB,e1,e2,hN]
     repeat(refine And.intro (by omega) ?_)
     refine ay (by omega) ?_;simp -dsimp -implicitDefEqProofs only[go_sem,h0,h1,h5,h6,h7,he,hA,hB,e1,e2,hN]
     repeat(refine And.intro (by omega) ?_)
     refine ay (by omega) ?_;simp -dsimp -implicitDefEqProofs only[go_sem,h0,h1,h5,h6,h7,he,hA,hB,e1,e2,hN]
     repeat(refine And.intro (by omega) ?_)
     refine aH (a.length-(i+1)) 5 42 5 (by omega) rfl rfl (by omega) (by decide) ⟨?_,?_,?_,i+1,_,_,rfl,?_,?_,hS.2 (by omega),?_⟩
     ·exact(by(repeat apply am rfl);exact hK)
     ·exact hKB
     ·exact(by(repeat apply am rfl);exact hKE)
     ·simp -dsimp -implicitDefEqProofs only[go_sem]
     ·simp -dsimp -implicitDefEqProofs only[go_sem]
     ·exact Own.mk2 (Nat.succ_pos _) (by simp -dsimp -implicitDefEqProofs only[go_sem];rfl) (by simp -dsimp -implicitDefEqProofs only[go_sem];rfl) (by simp) (gZ (by omega))
    ·simp -dsimp -implicitDefEqProofs only[go_sem,h0,h1,h5,h6,h7,he,hA,hB,e1,e2,hN]
     repeat(refine And.intro (by omega) ?_)
     refine ay (by omega) ?_;simp -dsimp -implicitDefEqProofs only[go_sem,h0,h1,h5,h6,h7,he,hA,hB,e1,e2,hN]
     repeat(refine And.intro (by omega) ?_)
     refine ay (by omega) ?_;simp -dsimp -implicitDefEqProofs only[go_sem,h0,h1,h5,h6,h7,he,hA,hB,e1,e2,hN]
     repeat(refine And.intro (by omega) ?_)
     refine aH (a.length-(i+1)) 5 42 5 (by omega) rfl rfl (by omega) (by decide) ⟨?_,?_,?_,i+1,_,_,rfl,?_,?_,hS.1 (by omega),?_⟩
     ·exact(by(repeat apply am rfl);exact hK)
     ·exact hKB
     ·exact(by(repeat apply am rfl);exact hKE)
     ·simp -dsimp -implicitDefEqProofs only[go_sem]
     ·simp -dsimp -implicitDefEqProofs only[go_sem]
     ·exact Own.mk2 (Nat.succ_pos _) (by simp -dsimp -implicitDefEqProofs only[go_sem];rfl) (by simp -dsimp -implicitDefEqProofs only[go_sem];rfl) (by simp) (gZ (by omega))
   ·rw[mF (l:=b) (by omega)]at hS;by_cases hN:a[i]-c<0
    ·simp -dsimp -implicitDefEqProofs only[go_sem,h0,h1,h5,h6,h7,he,hA,hB,e1,hN]
     repeat(refine And.intro (by omega) ?_)
     refine ay (by omega) ?_;simp -dsimp -implicitDefEqProofs only[go_sem,h0,h1,h5,h6,h7,he,hA,hB,e1,hN]
     repeat(refine And.intro (by omega) ?_)
     refine aH (a.length-(i+1)) 5 42 5 (by omega) rfl rfl (by omega) (by decide) ⟨?_,?_,?_,i+1,_,_,rfl,?_,?_,hS.2 (by omega),?_⟩
     ·exact(by(repeat apply am rfl);exact hK)
     ·exact hKB
     ·exact(by(repeat apply am rfl);exact hKE)
     ·simp -dsimp -implicitDefEqProofs only[go_sem]
     ·simp -dsimp -implicitDefEqProofs only[go_sem]
     ·exact Own.mk2 (Nat.succ_pos _) (by simp -dsimp -implicitDefEqProofs only[go_sem];rfl) (by simp -dsimp -implicitDefEqProofs only[go_sem];rfl) (by simp) (gZ (by omega))
    ·simp -dsimp -implicitDefEqProofs only[go_sem,h0,h1,h5,h6,h7,he,hA,hB,e1,hN]
     repeat(refine And.intro (by omega) ?_)
     refine ay (by omega) ?_;simp -dsimp -implicitDefEqProofs only[go_sem,h0,h1,h5,h6,h7,he,hA,hB,e1,hN]
     repeat(refine And.intro (by omega) ?_)
     refine aH (a.length-(i+1)) 5 42 5 (by omega) rfl rfl (by omega) (by decide) ⟨?_,?_,?_,i+1,_,_,rfl,?_,?_,hS.1 (by omega),?_⟩
     ·exact(by(repeat apply am rfl);exact hK)
     ·exact hKB
     ·exact(by(repeat apply am rfl);exact hKE)
     ·simp -dsimp -implicitDefEqProofs only[go_sem]
     ·simp -dsimp -implicitDefEqProofs only[go_sem]
     ·exact Own.mk2 (Nat.succ_pos _) (by simp -dsimp -implicitDefEqProofs only[go_sem];rfl) (by simp -dsimp -implicitDefEqProofs only[go_sem];rfl) (by simp) (gZ (by omega))
  ·simp -dsimp -implicitDefEqProofs only[go_sem,h0,h1,h5,h6,h7,he,hA];rw[<-hI.done hlb hle (by omega)];refine⟨(by(repeat apply am rfl);exact hK),hKB,hKE,?_⟩
   exact Own.mk2 hg h5 he (by simp) rfl
 ·rintro e τ β ε π hK hKB hKE ⟨rfl,g,mm,hg,h5,he⟩;refine⟨_,aY.freeze _ 5,?_⟩;simp -dsimp -implicitDefEqProofs only[go_sem,h5,he,hg]
theorem yd {a b:List Int} (ha:Dig a) (hb:Dig b):val a+val b<4294967296 ^ iI a b:=by
 have h1:=dC ha;have h2:=dC hb;have h3:=kP (a:=a.length) (b:=max a.length b.length) (by omega);have h4:=kP (a:=b.length) (b:=max a.length b.length) (by omega);rw[iI];split
 ·assumption
 ·rw[Int.pow_succ];omega
theorem AR (a b:List Int):iI a b<=max a.length b.length+1:=by rw[iI];split<;>omega
theorem rF (a b:Int) (hla:(lb a).length<549755813888) (hlb:(lb b).length<549755813888):Fn Tryz.prog 139 [iZ a,iZ b] [iZ (a+b)]:=by
 have hs:=AR (lb a) (lb b);have hv:val (digs (iI (lb a) (lb b)) (val (lb a)+val (lb b)))=(a.natAbs+b.natAbs:Int):=by
  rw[fA (by rw[a6,a6];omega) (yd (bC a) (bC b)),a6,a6]
 refine ak (fn:=Tryz.f139) (by rfl) rfl rfl rfl (by rfl) ?_;simp -dsimp -implicitDefEqProofs only[go_sem];refine j5 (fun h=>?_) (fun h=>?_)<;>simp -dsimp -implicitDefEqProofs only[go_sem]
 ·refine ao (by rfl) 8 [] false true (by rfl) (by rfl) (by decide +kernel) ?_;simp -dsimp -implicitDefEqProofs only[go_sem];refine an (ID (lb a) (lb b) (bC a) (bC b) (by omega) (by omega)) ?_;simp -dsimp -implicitDefEqProofs only[go_sem];refine an (cX _ _ (cI _ _) (by rw[co];omega)) ?_;simp -dsimp -implicitDefEqProofs only[go_sem];refine jR ?_;rw[hv];have hh:(a<0)↔(b<0):=by simpa using h
  split<;>rename_i h1<;>simp only[decide_eq_true_eq]at h1<;>omega
 ·have hh:¬ ((a<0)↔(b<0)):=by simpa using h
  refine an (rt a b (by omega)) ?_;simp -dsimp -implicitDefEqProofs only[go_sem];refine aO (fun h=>?_) (fun h=>?_)<;>simp -dsimp -implicitDefEqProofs only[go_sem]
  ·refine ao (by rfl) 8 [] false true (by rfl) (by rfl) (by decide +kernel) ?_;simp -dsimp -implicitDefEqProofs only[go_sem];refine an (vF (lb b) (lb a) (bC b) (bC a) (by omega) (eG (Int.lt_trans h (fj b))) (by rw[a6,a6];omega)) ?_;simp -dsimp -implicitDefEqProofs only[go_sem];refine an (cX _ _ (cI _ _) (by rw[co];omega)) ?_;simp -dsimp -implicitDefEqProofs only[go_sem];refine jR ?_;rw[a6,a6,js (by omega)];split<;>rename_i h1<;>simp only[decide_eq_true_eq]at h1<;>omega
  ·refine ao (by rfl) 8 [] false true (by rfl) (by rfl) (by decide +kernel) ?_;simp -dsimp -implicitDefEqProofs only[go_sem];refine an (vF (lb a) (lb b) (bC a) (bC b) (by omega) (eG (Int.lt_of_le_of_lt (by omega) (fj a))) (by rw[a6,a6];omega)) ?_;simp -dsimp -implicitDefEqProofs only[go_sem];refine an (cX _ _ (cI _ _) (by rw[co];omega)) ?_;simp -dsimp -implicitDefEqProofs only[go_sem];refine jR ?_;rw[a6,a6,js (by omega)];split<;>rename_i h1<;>simp only[decide_eq_true_eq]at h1<;>omega
theorem Dj (a b:Int) (hla:(lb a).length<549755813888) (hlb:(lb b).length<549755813888):Fn Tryz.prog 222 [iZ a,iZ b] [iZ (a-b)]:=by
 refine ak (fn:=Tryz.f222) (by rfl) rfl rfl rfl (by rfl) ?_;simp -dsimp -implicitDefEqProofs only[go_sem];refine ao (by rfl) 4 [] false true (by rfl) (by rfl) (by decide +kernel) ?_;simp -dsimp -implicitDefEqProofs only[go_sem];refine an (lv b (by omega)) ?_;simp -dsimp -implicitDefEqProofs only[go_sem];refine an (rF a (-b) (by omega) (by rw[jo];omega)) ?_;simp -dsimp -implicitDefEqProofs only[go_sem];exact jR (by omega)
structure uh (a b:List Int) (i:Nat) (L:List Int):Prop where
 hi:i<=a.length
 hl:L.length=a.length+b.length+1
 hd:Dig L
 hv:val L=val (a.take i)*val b
 hz:∀ j (h:j<L.length),i+b.length<=j->L[j]=0
structure pu (a b:List Int) (i:Nat) (L:List Int) (k:Nat) (M:List Int) (c:Int):Prop where
 hk:k<=b.length+1
 c0:0<=c
 c1:c<4294967296
 hl:M.length=a.length+b.length+1
 hd:Dig M
 hv:val M+4294967296 ^ (i+k)*c=val L+4294967296 ^ i*(dg a i*val (b.take k))
 hz:∀ j (h:j<M.length),i+max b.length k<=j->M[j]=0
 he:k=b.length+1->c=0
theorem pu.zero {a b:List Int} {i:Nat} {L:List Int} (h:uh a b i L):pu a b i L 0 L 0 :=
 ⟨by omega,by omega,by omega,h.hl,h.hd,by simp[val],fun j hj hle=>h.hz j hj (by omega),fun h=>by omega⟩
theorem Py {M L c z m Pi Pk V r q x y:Int} (h:M+Pi*Pk*c=L+Pi*(x*V)) (e:r+4294967296*q=c+z+m) (hz:z=x*y):M+Pi*Pk*(r-m)+Pi*(Pk*4294967296)*q=L+Pi*(x*(V+Pk*y)):=by
 subst hz;grind
theorem pu.step {a b:List Int} {i:Nat} {L:List Int} {k:Nat} {M:List Int} {c:Int} (ha:Dig a) (hb:Dig b) (h:pu a b i L k M c) (hc:k<b.length\/0<c) (hik:i+k<M.length) :
  k<b.length+1/\0<=dg a i*dg b k/\c+dg a i*dg b k+M[i+k]<18446744073709551616/\pu a b i L (k+1) (M.set (i+k) ((c+dg a i*dg b k+M[i+k]) % 4294967296)) ((c+dg a i*dg b k+M[i+k])/4294967296):=by
 obtain⟨hk,c0,c1,hl,hd,hv,hz,he⟩:=h;have b1:=tP ha i;have b2:=tP hb k;have hm:=hd.get hik;have hlt:k<b.length+1:=by
  refine Nat.lt_of_le_of_ne hk fun e=>?_;have:=he e;omega
 have p1:0<=dg a i*dg b k:=Int.mul_nonneg b1.1 b2.1;have p2:dg a i*dg b k<=4294967295*4294967295:=Int.mul_le_mul (by omega) (by omega) b2.1 (by omega);refine⟨hlt,p1,by omega,by omega,by omega,by omega,by simp[hl],hd.set (by omega),?_,?_,fun e=>?_⟩
 ·rw[iC hik,dO];have e4:(4294967296:Int) ^ (i+(k+1))=4294967296 ^ i*(4294967296 ^ k*4294967296):=by rw[Int.pow_add,Int.pow_succ]
  have e5:(4294967296:Int) ^ (i+k)=4294967296 ^ i*4294967296 ^ k:=Int.pow_add ..;rw[e5]at hv ⊢;rw[e4];exact Py hv (Int.emod_add_mul_ediv ..) rfl
 ·intro j hj hle;rw[List.getElem_set_ne (by omega)];exact hz j _ (by omega)
 ·have e1:k=b.length:=by omega
  have e2:dg b k=0:=mF (by omega);have e3:=hz (i+k) hik (by omega);rw[e2,e3];omega
theorem pu.done {a b:List Int} {i:Nat} {L:List Int} {k:Nat} {M:List Int} {c:Int} (hL:uh a b i L) (hi:i<a.length) (h:pu a b i L k M c) (h1:¬ k<b.length) (h2:¬ 0<c):uh a b (i+1) M:=by
 obtain⟨hk,c0,c1,hl,hd,hv,hz,he⟩:=h;refine⟨by omega,hl,hd,?_,fun j hj hle=>hz j hj (by omega)⟩;have e:c=0:=by omega
 rw[e,hL.hv,List.take_of_length_le (l:=b) (by omega)]at hv;rw[dO]
 grind
theorem uh.done {a b:List Int} {i:Nat} {L:List Int} (h:uh a b i L) (h1:¬ i<a.length):L.length=a.length+b.length+1/\Dig L/\val L=val a*val b:=by
 refine⟨h.hl,h.hd,?_⟩;rw[h.hv,List.take_of_length_le (by omega)]
theorem mulrow {c m x y:Int} (hc:0<=c/\c<4294967296) (hm:0<=m/\m<4294967296) (hx:0<=x/\x<4294967296) (hy:0<=y/\y<4294967296) (h0:0<=x*y) (h:c+x*y+m<18446744073709551616) :
  ((c+m % 18446744073709551616) % 18446744073709551616+x % 18446744073709551616*(y % 18446744073709551616) % 18446744073709551616) % 18446744073709551616=c+x*y+m:=by
 rw[Int.emod_eq_of_lt hx.1 (by omega),Int.emod_eq_of_lt hy.1 (by omega)];generalize x*y=z at *
 omega
theorem Jz {a b:Int}:(if(!decide (a<0) == decide (b<0))=true then -((a.natAbs:Int)*b.natAbs)else(a.natAbs:Int)*b.natAbs)=a*b:=by
 by_cases h:a<0<;>by_cases h':b<0
 ·have e1:(a.natAbs:Int) = -a:=by omega
  have e2:(b.natAbs:Int) = -b:=by omega
  simp[h,h',e1,e2,Int.neg_mul,Int.mul_neg]
 ·have e1:(a.natAbs:Int) = -a:=by omega
  have e2:(b.natAbs:Int)=b:=by omega
  simp[h,h',e1,e2,Int.neg_mul,Int.mul_neg]
 ·have e1:(a.natAbs:Int)=a:=by omega
  have e2:(b.natAbs:Int) = -b:=by omega
  simp[h,h',e1,e2,Int.neg_mul,Int.mul_neg]
 ·have e1:(a.natAbs:Int)=a:=by omega
  have e2:(b.natAbs:Int)=b:=by omega
  simp[h,h',e1,e2,Int.neg_mul,Int.mul_neg]
theorem gW (a b:Int) (hla:(lb a).length<274877906944) (hlb:(lb b).length<274877906944):Fn Tryz.prog 140 [iZ a,iZ b] [iZ (a*b)]:=by
 have hA:=bC a;have hB:=bC b;refine ak (fn:=Tryz.f140) (by rfl) rfl rfl rfl (by rfl) ?_;simp -dsimp -implicitDefEqProofs only[go_sem]
 repeat(refine And.intro (by omega) ?_)
 refine aS [(6,8),(18,73)] [] [(17,17)] (fun m τ β ε=>∃(i:Nat) (L:List Int),m=(lb a).length-i/\τ 6=aI i/\uh (lb a) (lb b) i L/\ε 17=⟨1,1,L.map bc,true,true⟩)
  (fun e τ β ε=>e = .exit 0/\∃ L:List Int,L.length=(lb a).length+(lb b).length+1/\Dig L/\val L=val (lb a)*val (lb b)/\ε 17=⟨1,1,L.map bc,true,true⟩) (lb a).length ?_ ?_ ?_
 ·refine⟨0,List.replicate ((lb a).length+(lb b).length+1) 0,rfl,rfl,⟨by omega,by simp,Dig.replicate _,by rw[jV];simp[val],fun j h _=>by simp⟩,?_⟩;simp -dsimp -implicitDefEqProofs only[go_sem];simp[dU]
 ·rintro m τ β ε π hK hKB hKE ⟨i,L,hm,h6,hI,he⟩;have h2:τ 2 = .bp 2 1 0:=hK 2 (by decide);have h3:τ 3 = .bp 3 1 0:=hK 3 (by decide);have h5:τ 5 = .sl 17 1 ((lb a).length+(lb b).length+1):=hK 5 (by decide);have hb2:β 2=⟨1,eZ a⟩:=hKB 2 (by decide);have hb3:β 3=⟨1,eZ b⟩:=hKB 3 (by decide);have hi:=hI.hi;have hl:=hI.hl;by_cases hA':(i:Int)<(lb a).length
  ·have hia:i<(lb a).length:=by omega
   simp -dsimp -implicitDefEqProofs only[go_sem,h2,h3,h5,h6,hb2,hb3,he,hA'];refine aJ [(7,8),(25,73)] [] [(17,17)] (fun m τ β ε=>∃(k:Nat) (M:List Int) (c:Int),m=(lb b).length+1-k/\τ 8=aI k/\τ 7=aW c/\pu (lb a) (lb b) i L k M c/\ε 17=⟨1,1,M.map bc,true,true⟩)
    (fun e τ β ε=>e = .exit 2/\∃ M:List Int,uh (lb a) (lb b) (i+1) M/\ε 17=⟨1,1,M.map bc,true,true⟩) ((lb b).length+1) ?_ ?_ ?_
   ·exact⟨0,L,0,rfl,rfl,rfl,pu.zero hI,he⟩
   ·rintro m' τ' β' ε' π' hK' hKB' hKE' ⟨k,M,c,hm',h8,h7,hJ,he'⟩;have g2:τ' 2 = .bp 2 1 0:=(hK' 2 (by decide)).trans h2;have g3:τ' 3 = .bp 3 1 0:=(hK' 3 (by decide)).trans h3;have g5:τ' 5 = .sl 17 1 ((lb a).length+(lb b).length+1):=(hK' 5 (by decide)).trans h5;have g6:τ' 6=aI i:=(hK' 6 (by decide)).trans h6;have gb2:β' 2=⟨1,eZ a⟩:=(hKB' 2 (by decide)).trans hb2;have gb3:β' 3=⟨1,eZ b⟩:=(hKB' 3 (by decide)).trans hb3;have c0:=hJ.c0;have c1:=hJ.c1;have hk:=hJ.hk;have hJl:=hJ.hl;by_cases hB':(k:Int)<(lb b).length
    ·have hkb:k<(lb b).length:=by omega
     have hik:i+k<M.length:=by omega
     have hm:=hJ.hd.get hik;have hai:=hA.get hia;have hbk:=hB.get hkb;obtain⟨s1,s2,s3,s4⟩:=hJ.step hA hB (.inl hkb) hik;rw[nJ hia,nJ hkb]at s2 s3 s4;simp -dsimp -implicitDefEqProofs only[go_sem,g2,g3,g5,g6,gb2,gb3,h7,h8,he',hB']
     repeat(refine And.intro (by omega) ?_)
     refine ay hik ?_;simp -dsimp -implicitDefEqProofs only[go_sem,g2,g3,g5,g6,gb2,gb3,h7,h8,he',hB'];refine ao (by rfl) 16 [] false true (by rfl) (by rfl) (by decide +kernel) ?_;simp -dsimp -implicitDefEqProofs only[go_sem,g2,g3,g5,g6,gb2,gb3,h7,h8,he',hB']
     repeat(refine And.intro (by omega) ?_)
     refine ay hia ?_;simp -dsimp -implicitDefEqProofs only[go_sem,g2,g3,g5,g6,gb2,gb3,h7,h8,he',hB']
     repeat(refine And.intro (by omega) ?_)
     refine ay hkb ?_;simp -dsimp -implicitDefEqProofs only[go_sem,g2,g3,g5,g6,gb2,gb3,h7,h8,he',hB']
     repeat(refine And.intro (by omega) ?_)
     refine ay hik ?_;have e3:=mulrow ⟨c0,c1⟩ hm hai hbk s2 s3;simp -dsimp -implicitDefEqProofs only[go_sem,g2,g3,g5,g6,gb2,gb3,h7,h8,he',hB',e3]
     repeat(refine And.intro (by omega) ?_)
     refine again ((lb b).length+1-(k+1)) (by omega) ⟨(by(repeat apply am rfl);exact hK'),(by(repeat apply am rfl);exact hKB'),(by(repeat apply am rfl);exact hKE'),k+1,_,_,rfl,rfl,?_,s4,?_⟩
     ·simp -dsimp -implicitDefEqProofs only[go_sem];refine vx ?_;rw[Int.tdiv_eq_ediv_of_nonneg (by omega)];generalize (lb a)[i]*(lb b)[k]=z at *
      omega
     ·simp -dsimp -implicitDefEqProofs only[go_sem]
    ·by_cases hC:0<c
     ·have hik:i+k<M.length:=by omega
      have hm:=hJ.hd.get hik;have hai:=hA.get hia;obtain⟨s1,s2,s3,s4⟩:=hJ.step hA hB (.inr hC) hik;rw[mF (l:=lb b) (by omega),Int.mul_zero]at s2 s3 s4;simp -dsimp -implicitDefEqProofs only[go_sem,g2,g3,g5,g6,gb2,gb3,h7,h8,he',hB',hC]
      repeat(refine And.intro (by omega) ?_)
      refine ay hik ?_;simp -dsimp -implicitDefEqProofs only[go_sem,g2,g3,g5,g6,gb2,gb3,h7,h8,he',hB']
      repeat(refine And.intro (by omega) ?_)
      refine ay hik ?_;simp -dsimp -implicitDefEqProofs only[go_sem,g2,g3,g5,g6,gb2,gb3,h7,h8,he',hB']
      repeat(refine And.intro (by omega) ?_)
      have e3:(c+M[i+k] % 18446744073709551616) % 18446744073709551616=c+0+M[i+k]:=by omega
      refine again ((lb b).length+1-(k+1)) (by omega) ⟨(by(repeat apply am rfl);exact hK'),(by(repeat apply am rfl);exact hKB'),(by(repeat apply am rfl);exact hKE'),k+1,_,_,rfl,rfl,?_,s4,?_⟩
      ·simp -dsimp -implicitDefEqProofs only[go_sem,e3];refine vx ?_;rw[Int.tdiv_eq_ediv_of_nonneg (by omega)];omega
      ·simp -dsimp -implicitDefEqProofs only[go_sem,e3]
     ·simp -dsimp -implicitDefEqProofs only[go_sem,g2,g3,g5,g6,gb2,gb3,h7,h8,he',hB',hC];exact⟨(by(repeat apply am rfl);exact hK'),(by(repeat apply am rfl);exact hKB'),(by(repeat apply am rfl);exact hKE'),M,hJ.done hI hia (by omega) hC,rfl⟩
   ·rintro e τ' β' ε' π' hK' hKB' hKE' ⟨rfl,M,hM,he'⟩;have g6:τ' 6=aI i:=(hK' 6 (by decide)).trans h6;have hKo:=Kp.step2 hK hK' (by intro n;simp[inR];omega) (by simp -dsimp -implicitDefEqProofs only[go_sem,hK]);have hKBo:=Kp.step2 hKB hKB' (by simp[inR]) hKB;have hKEo:=Kp.step2 hKE hKE' (by simp[inR]) hKE;simp -dsimp -implicitDefEqProofs only[go_sem,g6,he']
    repeat(refine And.intro (by omega) ?_)
    exact again ((lb a).length-(i+1)) (by omega) ⟨(by(repeat apply am rfl);exact hKo),hKBo,hKEo,i+1,M,rfl,rfl,hM,he'⟩
  ·simp -dsimp -implicitDefEqProofs only[go_sem,h2,h3,h5,h6,hb2,hb3,he,hA'];obtain⟨d1,d2,d3⟩:=hI.done (by omega);exact⟨(by(repeat apply am rfl);exact hK),hKB,hKE,L,d1,d2,d3,rfl⟩
 ·rintro e τ β ε π hK hKB hKE ⟨rfl,L,hl,hd,hv,he⟩;have h2:τ 2 = .bp 2 1 0:=hK 2 (by decide);have h3:τ 3 = .bp 3 1 0:=hK 3 (by decide);have h4:τ 4 = .bp 4 1 0:=hK 4 (by decide);have h5:τ 5 = .sl 17 1 ((lb a).length+(lb b).length+1):=hK 5 (by decide);have hb2:β 2=⟨1,eZ a⟩:=hKB 2 (by decide);have hb3:β 3=⟨1,eZ b⟩:=hKB 3 (by decide);have hb4:β 4=⟨1,kw false []⟩:=hKB 4 (by decide);refine⟨_,aY.freeze _ 17,?_⟩;simp -dsimp -implicitDefEqProofs only[go_sem,h2,h3,h4,h5,hb2,hb3,hb4,he];rw[List.take_of_length_le (by simp[hl])];refine an (cX L _ hd (by omega)) ?_;simp -dsimp -implicitDefEqProofs only[go_sem,h2,h3,h4,h5,hb2,hb3,hb4,he];refine jR ?_;rw[hv,a6,a6];exact Jz
theorem vC (a:List Int) (d:Int) (Q:List Int) (r:Int) (ha:Dig a) (hd:0<d/\d<4294967296) (hla:a.length<17592186044416) (hQ:Q=digs a.length (val a/d)) (hr:r=val a % d) :
  Fn Tryz.prog 240 [iL a,iU d] [iL Q,iU r]:=by
 refine ak (fn:=Tryz.f240) (by rfl) rfl rfl rfl (by rfl) ?_;simp -dsimp -implicitDefEqProofs only[go_sem]
 repeat(refine And.intro (by omega) ?_)
 refine aJ [(7,8),(15,38)] [] [(11,11)] (fun n τ β ε=>n<=a.length/\τ 8=aI ((n:Int)-1)/\∃ s,τ 7=aW s/\s=val (a.drop n) % d /\
   ∃(l m:List Int),ε 11=⟨1,1,(l++m).map bc,true,true⟩/\l.length=n/\(l++m).length=a.length/\Dig m/\val m=val (a.drop n)/d)
  (fun e τ β ε=>e = .exit 0/\τ 7=aW (val a % d)/\∃(m:List Int),ε 11=⟨1,1,m.map bc,true,true⟩/\m.length=a.length/\Dig m/\val m=val a/d) a.length ?_ ?_ ?_
 ·refine⟨by omega,by simp[bB],0,by simp[bB],by simp[val],List.replicate a.length 0,[],?_,by simp,by simp,Dig.nil,?_⟩
  ·simp[bB,dU]
  ·simp[val]
 ·rintro n τ β ε π hK hKB hKE ⟨hn,h8,s,h7,hs,l,m,hE,hl,hlm,hD,hv⟩;have h0:τ 0=aL a:=hK 0 (by decide);have h1:τ 1=aU d:=hK 1 (by decide);have h6:τ 6 = .sl 11 1 a.length:=hK 6 (by decide);have hm0:=Int.emod_nonneg (val (a.drop n)) (b:=d) (by omega);have hm1:=Int.emod_lt_of_pos (val (a.drop n)) hd.1;rw[<-hs]at hm0 hm1;have hdm:=Int.emod_add_mul_ediv (val (a.drop n)) d;rw[<-hs,<-hv]at hdm;simp -dsimp -implicitDefEqProofs only[go_sem,h0,h1,h6,h7,h8,hE];refine aO (fun h=>?_) (fun h=>?_)<;>simp -dsimp -implicitDefEqProofs only[go_sem,h0,h1,h6,h7,h8,hE,hK,hKB,hKE]
  ·have hna:n-1<a.length:=by omega
   have hai:=ha.get hna;have hn1:n-1+1=n:=by omega
   have hvd:=bI hna;rw[hn1]at hvd;obtain⟨l,x,rfl,hl'⟩:=rn (l:=l) (n:=n-1) (by omega)
   repeat(refine And.intro (by omega) ?_)
   refine bD (n-1) (by omega) hna ?_;simp -dsimp -implicitDefEqProofs only[go_sem,h0,h1,h6,h7,h8,hE,hK,hKB,hKE];have e1:(s*4294967296 % 18446744073709551616+a[n-1] % 18446744073709551616) % 18446744073709551616=s*4294967296+a[n-1]:=by omega
   have e2:d % 18446744073709551616=d:=by omega
   rw[e1,e2]
   repeat(refine And.intro (by omega) ?_)
   refine bD (n-1) (by omega) (by omega) ?_;simp -dsimp -implicitDefEqProofs only[go_sem,h0,h1,h6,h7,h8,hE,hK,hKB,hKE]
   repeat(refine And.intro (by omega) ?_)
   have hq0:0<=(s*4294967296+a[n-1])/d:=Int.ediv_nonneg (by omega) (by omega);have hq1:(s*4294967296+a[n-1])/d<4294967296:=Int.ediv_lt_of_lt_mul hd.1 (by omega);refine again (n-1) (by omega) ?_;simp -dsimp -implicitDefEqProofs only[go_sem,h0,h1,h6,h7,h8,hE,hK,hKB,hKE,e1,e2];have e3:(s*4294967296+a[n-1]).tdiv d=(s*4294967296+a[n-1])/d:=Int.tdiv_eq_ediv_of_nonneg (by omega);have e4:(s*4294967296+a[n-1]).tmod d=(s*4294967296+a[n-1]) % d:=Int.tmod_eq_emod_of_nonneg (by omega);have e5:val (a.drop (n-1))=d*(4294967296*val m)+(s*4294967296+a[n-1]):=by rw[hvd,<-hdm];grind
   have e6:((n:Int)-1).toNat=n-1:=by omega
   rw[e3,e4,Int.emod_eq_of_lt hq0 (by omega),Int.emod_eq_of_lt hq0 hq1,e6];refine⟨by omega,ia (by omega),_,rfl,?_,l,(s*4294967296+a[n-1])/d::m,?_,hl',by simp at hlm ⊢;omega,Dig.cons.2 ⟨⟨hq0,hq1⟩,hD⟩,?_⟩
   ·rw[e5,Int.mul_add_emod_self_left]
   ·rw[List.append_assoc,List.singleton_append,jM hl']
   ·rw[e5,Int.mul_add_ediv_left _ _ (by omega)];simp only[val];omega
  ·have:n=0:=by omega
   subst this;obtain rfl:l=[]:=List.eq_nil_of_length_eq_zero hl;simp only[List.drop_zero]at hs hv;exact⟨by rw[hs],m,rfl,by simpa using hlm,hD,hv⟩
 ·rintro e τ β ε π hK hKB hKE ⟨rfl,h7,m,hE,hlm,hD,hv⟩;have h6:τ 6 = .sl 11 1 a.length:=hK 6 (by decide);simp -dsimp -implicitDefEqProofs only[go_sem,h6,h7,hE];obtain rfl:Q=m:=by rw[hQ];exact(gT hD hlm hv).symm
  rw[List.take_of_length_le (by simp[hlm]),<-hr];have hm0:=Int.emod_nonneg (val a) (b:=d) (by omega);have hm1:=Int.emod_lt_of_pos (val a) hd.1;rw[<-hr]at hm0 hm1;rw[Int.emod_eq_of_lt hm0 (by omega)]
theorem MQ {l:List Int} (hd:Dig l) {i:Nat} (h:i<l.length):4294967296 ^ i*l[i]<=val l:=by
 have h1:=eV h;have h2:=aQ (hd.take i);have h3:=aQ (hd.drop (i+1));have h4:(0:Int)<=4294967296 ^ i*(4294967296*val (l.drop (i+1))):=Int.mul_nonneg (Int.le_of_lt (Int.pow_pos (by decide))) (by omega);rw[Int.mul_add]at h1;omega
theorem MO {l:List Int} (hd:Dig l) {i:Nat} (h:i<l.length) (hl:l.length=i+1):val l<(l[i]+1)*4294967296 ^ i:=by
 have h1:=eV h;have h2:=dC (hd.take i);rw[List.drop_of_length_le (by omega),List.length_take,Nat.min_eq_left (by omega)]at *
 simp only[val]at h1;rw[h1]
 grind
theorem Jv {l:List Int} (hd:Dig l) {i:Nat} (h:i+1<l.length):(l[i+1]*4294967296+l[i])*4294967296 ^ i<=val l:=by
 have h1:=eV (l:=l) (i:=i) (by omega);have h2:=aQ (hd.take i);rw[bI h]at h1;have h3:=aQ (hd.drop (i+1+1));have h4:(0:Int)<=4294967296 ^ i*(4294967296*(4294967296*val (l.drop (i+1+1)))):=Int.mul_nonneg (Int.le_of_lt (Int.pow_pos (by decide))) (by omega)
 grind
theorem H4 {X low q p b c a:Int} (hq:q=X/low) (hl:0<low) (hb:b<=low*p) (hp:0<=p) (hq0:0<=q) (hc:0<=c) (ha:X*(p*c)<=a):q*c*b<=a:=by
 have h1:q*low<=X:=by rw[hq];exact Int.ediv_mul_le X (by omega)
 have h2:q*c*b<=q*c*(low*p):=Int.mul_le_mul_of_nonneg_left hb (Int.mul_nonneg hq0 hc);have h3:q*low*(p*c)<=X*(p*c):=Int.mul_le_mul_of_nonneg_right h1 (Int.mul_nonneg hp hc);have h4:q*c*(low*p)=q*low*(p*c):=by grind
 omega
theorem ar {P:Program} {f:FuncId} {args args' res:List IV} {K:List IV->Prop} (h:args=args') (hf:Fn P f args' res) (hK:K res):wFn P f args K ⟨⟩:=by
 subst h;exact an hf hK
theorem aa {P:Program} {f:FuncId} {args args' res:List IV} {K:List IV->Prop} (hf:Fn P f args' res) (h:args=args') (hK:K res):wFn P f args K ⟨⟩:=ar h hf hK
theorem Md {x y:Int} (hx:0<=x/\x<18446744073709551616) (hy:0<=y/\y<4294967296):(x % 18446744073709551616).tdiv ((y % 18446744073709551616+1) % 18446744073709551616) % 18446744073709551616=x/(y+1):=by
 have e1:x % 18446744073709551616=x:=by omega
 have e2:(y % 18446744073709551616+1) % 18446744073709551616=y+1:=by omega
 rw[e1,e2,Int.tdiv_eq_ediv_of_nonneg hx.1];have h1:x/(y+1)<=x:=Int.ediv_le_self _ hx.1;have h2:0<=x/(y+1):=Int.ediv_nonneg hx.1 (by omega);generalize x/(y+1)=z at *
 omega
theorem Pj (t u:Int):(t % 18446744073709551616*4294967296 % 18446744073709551616+u % 18446744073709551616) % 18446744073709551616=(t*4294967296+u) % 18446744073709551616:=by omega
theorem KE {n:Nat} {e:Int} (he:0<=e/\e<18446744073709551616):(List.replicate n [C.v (Value.int IntKind.u32 0)]++[[C.v (.int .u32 (e % 4294967296))],[C.v (.int .u32 (e/4294967296 % 4294967296))]]).take (n+2)=(List.replicate n 0++[e % 4294967296,e/4294967296]).map bc:=by
 have e1:e/4294967296 % 4294967296=e/4294967296:=by omega
 rw[e1,List.take_of_length_le (by simp)];simp[bc]
theorem KD {n:Nat} {e:Int} (he:0<=e/\e<18446744073709551616):Dig (List.replicate n 0++[e % 4294967296,e/4294967296])/\val (List.replicate n 0++[e % 4294967296,e/4294967296])=e*4294967296 ^ n:=by
 refine⟨(Dig.replicate n).append (Dig.cons.2 ⟨by omega,Dig.cons.2 ⟨by omega,Dig.nil⟩⟩),?_⟩;rw[gC,jV,List.length_replicate];simp only[val];have:=Int.emod_add_mul_ediv e 4294967296
 grind
theorem Ll (a b:Int) (hb:0<b) (hab:b<=a) (hla:(lb a).length<274877906944):∃ e:Int,1<=e/\e*b<=a/\Fn Tryz.prog 241 [iL (lb a),iL (lb b)] [iZ e]:=by
 have hA:=bC a;have hB:=bC b;have hva:=a6 a;have hvb:=a6 b;have hle:(lb b).length<=(lb a).length:=eG (Int.lt_of_le_of_lt (by omega) (fj a));have hb1:0<(lb b).length:=Nat.pos_of_ne_zero fun e=>by have:=fo.1 e;omega
 have hbt:(lb b).length-1<(lb b).length:=by omega
 have hat:(lb a).length-1<(lb a).length:=by omega
 have t1:=hB.get hbt;have t2:=hA.get hat;have b1:=MO hB hbt (by omega);have a0:=ru (z:=a) (by omega) hat;have b0:=ru (z:=b) (by omega) hbt;by_cases hk:(lb a).length=(lb b).length
 ·have key:=MQ hA hat;refine⟨max 1 ((lb a)[(lb a).length-1]/((lb b)[(lb b).length-1]+1)),by omega,?_,?_⟩
  ·by_cases h1:1<=(lb a)[(lb a).length-1]/((lb b)[(lb b).length-1]+1)
   ·have:=H4 (X:=(lb a)[(lb a).length-1]) (low:=(lb b)[(lb b).length-1]+1) (q:=(lb a)[(lb a).length-1]/((lb b)[(lb b).length-1]+1)) (p:=4294967296 ^ ((lb b).length-1)) (b:=b) (c:=1) (a:=a) rfl (by omega) (by omega)
     (Int.le_of_lt (Int.pow_pos (by decide))) (by omega) (by omega) (by rw[Int.mul_one,Int.mul_comm,<-hk];omega)
    rw[Int.mul_one]at this;rwa [show max 1 ((lb a)[(lb a).length-1]/((lb b)[(lb b).length-1]+1))=(lb a)[(lb a).length-1]/((lb b)[(lb b).length-1]+1)from by omega]
   ·rw[show max 1 ((lb a)[(lb a).length-1]/((lb b)[(lb b).length-1]+1))=1 from by omega];omega
  ·have hq:(lb a)[(lb a).length-1]/((lb b)[(lb b).length-1]+1)<=(lb a)[(lb a).length-1]:=Int.ediv_le_self _ t2.1;have hq0:0<=(lb a)[(lb a).length-1]/((lb b)[(lb b).length-1]+1):=Int.ediv_nonneg t2.1 (by omega);refine ak (fn:=Tryz.f241) (by rfl) rfl rfl rfl (by rfl) ?_;simp -dsimp -implicitDefEqProofs only[go_sem];refine ao (by rfl) 18 [] false true (by rfl) (by rfl) (by decide +kernel) ?_;simp -dsimp -implicitDefEqProofs only[go_sem]
   repeat(refine And.intro (by omega) ?_)
   refine bD ((lb b).length-1) (by omega) (by omega) ?_;simp -dsimp -implicitDefEqProofs only[go_sem];have ek:decide (((lb a).length:Int)-(lb b).length=0)=true:=ai (by omega);simp -dsimp -implicitDefEqProofs only[go_sem,ek]
   repeat(refine And.intro (by omega) ?_)
   refine bD ((lb a).length-1) (by omega) (by omega) ?_;simp -dsimp -implicitDefEqProofs only[go_sem];have eq:=Md (x:=(lb a)[(lb a).length-1]) (y:=(lb b)[(lb b).length-1]) (by omega) (by omega);rw[eq]
   repeat(refine And.intro (by omega) ?_)
   rw[oB _ (by omega) (by omega)];refine an (uf _ (by omega)) ?_;simp -dsimp -implicitDefEqProofs only[go_sem];rfl
 ·have h2n:(lb a).length-2+1<(lb a).length:=by omega
  have ea:(lb a).length-1=(lb a).length-2+1:=by omega
  have key:=Jv hA h2n;have t3:=hA.get (i:=(lb a).length-2) (by omega);simp only[ea]at t2 a0;have hX:0<=(lb a)[(lb a).length-2+1]*4294967296+(lb a)[(lb a).length-2]:=by omega
  have hq0:0<=((lb a)[(lb a).length-2+1]*4294967296+(lb a)[(lb a).length-2])/((lb b)[(lb b).length-1]+1):=Int.ediv_nonneg hX (by omega);have hq:((lb a)[(lb a).length-2+1]*4294967296+(lb a)[(lb a).length-2])/((lb b)[(lb b).length-1]+1)<=(lb a)[(lb a).length-2+1]*4294967296+(lb a)[(lb a).length-2]:=Int.ediv_le_self _ hX;have hq1:1<=((lb a)[(lb a).length-2+1]*4294967296+(lb a)[(lb a).length-2])/((lb b)[(lb b).length-1]+1):=by
   refine(Int.le_ediv_iff_mul_le (by omega)).2 ?_;omega
  have hpk:(1:Int)<=4294967296 ^ ((lb a).length-(lb b).length-1):=Int.pow_pos (by decide);refine⟨((lb a)[(lb a).length-2+1]*4294967296+(lb a)[(lb a).length-2])/((lb b)[(lb b).length-1]+1)*4294967296 ^ ((lb a).length-(lb b).length-1),?_,?_,?_⟩
  ·have:=Int.mul_le_mul_of_nonneg_right hq1 (a:=1) (c:=4294967296 ^ ((lb a).length-(lb b).length-1)) (by omega);omega
  ·refine H4 (p:=4294967296 ^ ((lb b).length-1)) rfl (by omega) (by omega) (Int.le_of_lt (Int.pow_pos (by decide))) hq0 (by omega) ?_;rw[<-Int.pow_add,show(lb b).length-1+((lb a).length-(lb b).length-1)=(lb a).length-2 from by omega];omega
  ·refine ak (fn:=Tryz.f241) (by rfl) rfl rfl rfl (by rfl) ?_;simp -dsimp -implicitDefEqProofs only[go_sem];refine ao (by rfl) 18 [] false true (by rfl) (by rfl) (by decide +kernel) ?_;simp -dsimp -implicitDefEqProofs only[go_sem]
   repeat(refine And.intro (by omega) ?_)
   refine bD ((lb b).length-1) (by omega) (by omega) ?_;simp -dsimp -implicitDefEqProofs only[go_sem];have ek:decide (((lb a).length:Int)-(lb b).length=0)=false:=aj (by omega);simp -dsimp -implicitDefEqProofs only[go_sem,ek];refine ao (by rfl) 17 [] false true (by rfl) (by rfl) (by decide +kernel) ?_;simp -dsimp -implicitDefEqProofs only[go_sem]
   repeat(refine And.intro (by omega) ?_)
   refine bD ((lb a).length-2+1) (by omega) (by omega) ?_;simp -dsimp -implicitDefEqProofs only[go_sem]
   repeat(refine And.intro (by omega) ?_)
   refine bD ((lb a).length-2) (by omega) (by omega) ?_;simp -dsimp -implicitDefEqProofs only[go_sem];rw[Pj,Md ⟨hX,by omega⟩ t1,show((((lb a).length:Int)-(lb b).length-1).toNat)=(lb a).length-(lb b).length-1 from by omega];simp only[List.length_replicate,true_and]
   repeat(refine And.intro (by omega) ?_)
   generalize hE:((lb a)[(lb a).length-2+1]*4294967296+(lb a)[(lb a).length-2])/((lb b)[(lb b).length-1]+1)=E at *
   obtain⟨r1,r2⟩:=KD (n:=(lb a).length-(lb b).length-1) (e:=E) (by omega);rw[KE (by omega)];refine an (cX _ false r1 (by simp;omega)) ?_;rw[r2];simp -dsimp -implicitDefEqProofs only[go_sem];rfl
theorem CM {z:Int} {k:Nat} (h0:0<=z) (h:z<4294967296 ^ k):(lb z).length<=k:=eG (by omega)
theorem wC (z:Int):lb (z.natAbs:Int)=lb z:=by simp[lb]
theorem Ax {s t:Int} (hs:1<=s) (ht:1<=t/\t<4294967296) (h:t*s<2147483648):2*s<4294967296/\t*(2*s)<4294967296:=by
 have h1:1*s<=t*s:=Int.mul_le_mul_of_nonneg_right ht.1 (by omega);have h2:t*(2*s)=2*(t*s):=by grind
 rw[Int.one_mul]at h1;rw[h2];omega
theorem eZ0:eZ 0=[.v (.bool false),.lst []]:=by
 have h:lb 0=[]:=List.eq_nil_of_length_eq_zero (fo.2 rfl);rw[Mg,h];rfl
theorem Ng {A s q B r:Int} (h:A*s=q*(B*s)+r) (hr:0<=r) (hs:1<=s) (hB:1<=B) (hq:0<=q):q<=A:=by
 have h1:q*B*s<=A*s:=by rw[Int.mul_assoc];omega
 have h2:=Int.le_of_mul_le_mul_right h1 (by omega);have h3:q*1<=q*B:=Int.mul_le_mul_of_nonneg_left hB hq;omega
theorem GD {A s q B r:Int} (h:A*s=q*(B*s)+r) (hq:0<=q) (hB:0<=B*s):r<=A*s:=by
 have:=Int.mul_nonneg hq hB;omega
theorem Eu {X D q r e:Int} (h:X=q*D+r):X=(q+e)*D+(r-e*D):=by grind
theorem Ev {A s q B r:Int} (h:A*s=q*(B*s)+r) (hr:0<=r) (hs:1<=s) (hB:1<=B) (hlt:r<B*s):A/B=q/\A % B=r/s/\r % s=0:=by
 have h1:r=(A-q*B)*s:=by grind
 have h2:r/s=A-q*B:=by rw[h1];exact Int.mul_ediv_cancel _ (by omega)
 have h3:0<=A-q*B:=by rw[<-h2];exact Int.ediv_nonneg hr (by omega)
 have h4:A-q*B<B:=by rw[h1]at hlt;exact Int.lt_of_mul_lt_mul_right hlt (by omega)
 have h5:A=(A-q*B)+q*B:=by omega
 refine⟨?_,?_,?_⟩
 ·rw[h5,Int.add_mul_ediv_right _ _ (by omega),Int.ediv_eq_zero_of_lt h3 h4,Int.zero_add]
 ·rw[h2]
  conv=>lhs;rw[h5,Int.add_mul_emod_self_right]
  exact Int.emod_eq_of_lt h3 h4
 ·rw[h1];exact Int.mul_emod_left _ _
theorem kY {a b:Int} (h:a.natAbs<=b.natAbs):(lb a).length<=(lb b).length:=eG (Int.lt_of_le_of_lt (by omega) (fj b))
theorem BW (a b:Int) (hb:b≠0) (hla:(lb a).length<68719476736) (hlb:(lb b).length<68719476736):Fn Tryz.prog 221 [iL (lb a),iL (lb b)] [iZ ((a.natAbs:Int)/b.natAbs),iZ ((a.natAbs:Int) % b.natAbs)]:=by
 have hA:=bC a;have hB:=bC b;have hva:=a6 a;have hvb:=a6 b;have hb0:0<(lb b).length:=Nat.pos_of_ne_zero fun e=>hb (fo.1 e);refine ak (fn:=Tryz.f221) (by rfl) rfl rfl rfl (by rfl) ?_;by_cases h1:(lb b).length=1
 ·obtain⟨d,e1,d0,d1,ed⟩:=Hr h1;have ha2:=fj a;have hq:val (lb a)/d=(a.natAbs:Int)/b.natAbs:=by rw[hva,ed]
  have hr:val (lb a) % d=(a.natAbs:Int) % b.natAbs:=by rw[hva,ed]
  have hdv:val (digs (lb a).length (val (lb a)/d))=(a.natAbs:Int)/b.natAbs:=by
   rw[hq];exact fA (Int.ediv_nonneg (by omega) (by omega)) (Int.lt_of_le_of_lt (Int.ediv_le_self _ (by omega)) ha2)
  have hm0:=Int.emod_nonneg (a.natAbs:Int) (b:=b.natAbs) (by omega);have hm1:=Int.emod_lt_of_pos (a.natAbs:Int) (b:=b.natAbs) (by omega);simp -dsimp -implicitDefEqProofs only[go_sem,e1];refine aO (fun _=>?_) (fun h=>absurd rfl h);simp -dsimp -implicitDefEqProofs only[go_sem,e1]
  repeat(refine And.intro (by omega) ?_)
  refine bD 0 rfl (by simp) ?_;simp -dsimp -implicitDefEqProofs only[go_sem];refine an (vC (lb a) d _ _ hA ⟨by omega,by omega⟩ (by omega) rfl rfl) ?_;simp -dsimp -implicitDefEqProofs only[go_sem];refine ar (args':=[iL (digs (lb a).length (val (lb a)/d)),iB false]) rfl (cX _ false (cI _ _) (by rw[co];omega)) ?_;simp -dsimp -implicitDefEqProofs only[go_sem];refine ar (args':=[iL [val (lb a) % d],iB false]) rfl (cX _ false (Dig.cons.2 ⟨by omega,Dig.nil⟩) (by simp)) ?_;simp -dsimp -implicitDefEqProofs only[go_sem];rw[hdv,show val [val (lb a) % d]=(a.natAbs:Int) % b.natAbs from by simp only[val];omega];rfl
 ·have hd:decide (((lb b).length:Int)=1)=false:=aj (by omega);have hbt:(lb b).length-1<(lb b).length:=by omega
  have t1:=hB.get hbt;have b0:=ru hb hbt;simp -dsimp -implicitDefEqProofs only[go_sem,hd];refine aJ [(8,8),(32,44)] [] [] (fun m τ β ε=>∃ s:Int,m=(4294967296-s).toNat/\1<=s/\s<4294967296/\τ 8=aU s/\(lb b)[(lb b).length-1]*s<4294967296)
   (fun e τ β ε=>e = .exit 0/\∃ s:Int,1<=s/\s<4294967296/\τ 8=aU s) 4294967295 ?_ ?_ ?_
  ·exact⟨1,by decide,by omega,by omega,rfl,by omega⟩
  ·rintro m τ β ε π hK hKB hKE ⟨s,hm,s0,s1,h8,hs⟩;have g1:τ 1=aL (lb b):=hK 1 (by decide);simp -dsimp -implicitDefEqProofs only[go_sem,g1,h8]
   repeat(refine And.intro (by omega) ?_)
   refine bD ((lb b).length-1) (by omega) (by omega) ?_;simp -dsimp -implicitDefEqProofs only[go_sem,g1,h8];have em:(lb b)[(lb b).length-1] % 18446744073709551616*(s % 18446744073709551616) % 18446744073709551616=(lb b)[(lb b).length-1]*s:=by
    rw[Int.emod_eq_of_lt t1.1 (by omega),Int.emod_eq_of_lt (a:=s) (by omega) (by omega),Int.emod_eq_of_lt (Int.mul_nonneg t1.1 (by omega)) (by omega)]
   rw[em];refine aO (fun h=>?_) (fun h=>?_)<;>simp -dsimp -implicitDefEqProofs only[go_sem,g1,h8]
   ·obtain⟨q1,q2⟩:=Ax s0 (by omega) h;refine again (4294967296-2*s).toNat (by omega) ⟨(by(repeat apply am rfl);exact hK),hKB,hKE,2*s,rfl,by omega,by omega,?_,q2⟩
    simp -dsimp -implicitDefEqProofs only[go_sem];exact PE (by omega)
   ·exact⟨(by(repeat apply am rfl);exact hK),hKB,hKE,s,s0,s1,rfl⟩
  ·rintro e τ β ε π hK hKB hKE ⟨rfl,s,s0,s1,h8⟩;have g0:τ 0=aL (lb a):=hK 0 (by decide);have g1:τ 1=aL (lb b):=hK 1 (by decide);have z9:β 9=⟨0,[]⟩:=hKB 9 (by decide);have z10:β 10=⟨0,[]⟩:=hKB 10 (by decide);have z11:β 11=⟨0,[]⟩:=hKB 11 (by decide);have z12:β 12=⟨0,[]⟩:=hKB 12 (by decide);have hs:Fn Tryz.prog 162 [iL [s],iB false] [iZ s]:=by
    have:=cX [s] false (Dig.cons.2 ⟨by omega,Dig.nil⟩) (by simp);rw[show val [s]=s from by simp only[val];omega]at this;exact this
   simp -dsimp -implicitDefEqProofs only[go_sem,g0,g1,h8,z9,z10,z11,z12];refine an hs ?_;simp -dsimp -implicitDefEqProofs only[go_sem,g0,g1,h8,z9,z10,z11,z12];refine aZ (by rfl) 8 12 [10,11,12] true [.tmp 10,.tmp 11] none (by rfl) (by rfl) (by rfl) (by rfl) (by decide +kernel) ?_;simp -dsimp -implicitDefEqProofs only[go_sem,g0,g1,h8,z9,z10,z11,z12];refine an (cX (lb a) false hA (by omega)) ?_;simp -dsimp -implicitDefEqProofs only[go_sem,g0,g1,h8,z9,z10,z11,z12];rw[hva];have hsl:(lb s).length<=1:=CM (by omega) (by omega);refine ar (args':=[iZ a.natAbs,iZ s]) rfl (gW _ _ (by rw[wC];omega) (by omega)) ?_;simp -dsimp -implicitDefEqProofs only[go_sem,g0,g1,h8,z9,z10,z11,z12];refine an (cX (lb b) false hB (by omega)) ?_;simp -dsimp -implicitDefEqProofs only[go_sem,g0,g1,h8,z9,z10,z11,z12];rw[hvb];refine ar (args':=[iZ b.natAbs,iZ s]) rfl (gW _ _ (by rw[wC];omega) (by omega)) ?_;simp -dsimp -implicitDefEqProofs only[go_sem,g0,g1,h8,z9,z10,z11,z12];have hAs:=dY a.natAbs s;have hBs:=dY b.natAbs s;rw[wC]at hAs hBs;have hD0:0<(b.natAbs:Int)*s:=Int.mul_pos (by omega) (by omega);have hA0:0<=(a.natAbs:Int)*s:=Int.mul_nonneg (by omega) (by omega);refine aJ [(13,13),(57,75)] [(10,10),(12,13)] [] (fun m τ β ε=>∃ q r:Int,m=r.natAbs/\0<=q/\0<=r/\(a.natAbs:Int)*s=q*(b.natAbs*s)+r/\β 10=⟨1,eZ r⟩/\β 12=⟨1,eZ q⟩)
    (fun e τ β ε=>e = .exit 2/\∃ q r:Int,0<=q/\0<=r/\(a.natAbs:Int)*s=q*(b.natAbs*s)+r/\β 10=⟨1,eZ r⟩/\β 12=⟨1,eZ q⟩/\r<b.natAbs*s) ((a.natAbs:Int)*s).natAbs ?_ ?_ ?_
   ·exact⟨0,_,rfl,by omega,hA0,by omega,by simp -dsimp -implicitDefEqProofs only[go_sem,z10],by simp -dsimp -implicitDefEqProofs only[go_sem,z12,eZ0]⟩
   ·rintro m τ' β' ε' π' hK' hKB' hKE' ⟨q,r,hm,hq,hr,hv,hb10,hb12⟩;have k10:τ' 10 = .bp 10 1 0:=hK' 10 (by decide);have k11:τ' 11 = .bp 11 1 0:=hK' 11 (by decide);have k12:τ' 12 = .bp 12 1 0:=hK' 12 (by decide);have hb11:β' 11=⟨1,eZ (b.natAbs*s)⟩:=hKB' 11 (by decide);have hrA:=GD hv hq (by omega);have lr:(lb r).length<=(lb ((a.natAbs:Int)*s)).length:=kY (by omega);have hqA:=Ng hv hr s0 (by omega) hq;have lq:(lb q).length<=(lb a).length:=kY (by omega);simp -dsimp -implicitDefEqProofs only[go_sem,k10,k11,k12,hb10,hb11,hb12];refine an (rt r _ (by omega)) ?_;by_cases hlt:(r.natAbs:Int)<((b.natAbs:Int)*s).natAbs
    ·simp -dsimp -implicitDefEqProofs only[go_sem,k10,k11,k12,hb10,hb11,hb12,hlt];exact⟨(by(repeat apply am rfl);exact hK'),(by(repeat apply am rfl);exact hKB'),(by(repeat apply am rfl);exact hKE'),q,r,hq,hr,hv,rfl,rfl,by omega⟩
    ·obtain⟨e,e1,e2,e3⟩:=Ll r (b.natAbs*s) hD0 (by omega) (by omega);simp -dsimp -implicitDefEqProofs only[go_sem,k10,k11,k12,hb10,hb11,hb12,hlt];refine an e3 ?_;simp -dsimp -implicitDefEqProofs only[go_sem,k10,k11,k12,hb10,hb11,hb12,hlt];have le:(lb e).length<=(lb r).length:=kY (by
      have:e*1<=e*((b.natAbs:Int)*s):=Int.mul_le_mul_of_nonneg_left (by omega) (by omega);omega)
     have hed:0<=e*((b.natAbs:Int)*s):=Int.mul_nonneg (by omega) (by omega);have led:=dY e (b.natAbs*s);refine aa (rF q e (by omega) (by omega)) rfl ?_;simp -dsimp -implicitDefEqProofs only[go_sem,k10,k11,k12,hb10,hb11,hb12,hlt];refine ao (by rfl) 5 [] false true (by rfl) (by rfl) (by decide +kernel) ?_;simp -dsimp -implicitDefEqProofs only[go_sem,k10,k11,k12,hb10,hb11,hb12,hlt];refine ar (args':=[iZ e,iZ (b.natAbs*s)]) rfl (gW _ _ (by omega) (by omega)) ?_;simp -dsimp -implicitDefEqProofs only[go_sem,k10,k11,k12,hb10,hb11,hb12,hlt];refine ar (args':=[iZ r,iZ (e*(b.natAbs*s))]) rfl (Dj _ _ (by omega) (by omega)) ?_;simp -dsimp -implicitDefEqProofs only[go_sem,k10,k11,k12,hb10,hb11,hb12,hlt];have hp:0<e*((b.natAbs:Int)*s):=Int.mul_pos (by omega) hD0;exact again (r-e*(b.natAbs*s)).natAbs (by omega) ⟨(by(repeat apply am rfl);exact hK'),(by(repeat apply am rfl);exact hKB'),(by(repeat apply am rfl);exact hKE'),q+e,r-e*(b.natAbs*s),rfl,by omega,by omega,Eu hv,rfl,rfl⟩
   ·rintro e τ' β' ε' π' hK' hKB' hKE' ⟨rfl,q,r,hq,hr,hv,hb10,hb12,hlt⟩;have k4:τ' 4 = .bp 4 1 0:=(hK' 4 (by decide)).trans (hK 4 (by decide));have k5:τ' 5 = .bp 5 1 0:=(hK' 5 (by decide)).trans (hK 5 (by decide));have hb4:β' 4=⟨1,kw false []⟩:=(hKB' 4 (by decide)).trans (hKB 4 (by decide));have hb5:β' 5=⟨1,kw false []⟩:=(hKB' 5 (by decide)).trans (hKB 5 (by decide));have k8:τ' 8=aU s:=(hK' 8 (by decide)).trans h8;have k10:τ' 10 = .bp 10 1 0:=hK' 10 (by decide);have k12:τ' 12 = .bp 12 1 0:=hK' 12 (by decide);have hrA:=GD hv hq (by omega);have lr:(lb r).length<=(lb ((a.natAbs:Int)*s)).length:=kY (by omega);obtain⟨f1,f2,f3⟩:=Ev hv hr s0 (by omega) hlt;simp -dsimp -implicitDefEqProofs only[go_sem,k4,k5,k8,k10,k12,hb4,hb5,hb10,hb12];have hvr:=a6 r;refine an (vC (lb r) s _ _ (bC r) ⟨by omega,s1⟩ (by omega) rfl rfl) ?_;simp -dsimp -implicitDefEqProofs only[go_sem,k4,k5,k8,k10,k12,hb4,hb5,hb10,hb12];refine ao (by rfl) 3 [] false true (by rfl) (by rfl) (by decide +kernel) ?_;simp -dsimp -implicitDefEqProofs only[go_sem,k4,k5,k8,k10,k12,hb4,hb5,hb10,hb12];have hr':val (lb r)/s=r/s:=by rw[hvr];congr 1;omega
    have hdv:val (digs (lb r).length (val (lb r)/s))=r/s:=by
     rw[hr'];refine fA (Int.ediv_nonneg hr (by omega)) (Int.lt_of_le_of_lt (Int.ediv_le_self _ hr) ?_);have:=fj r;omega
    refine ar (args':=[iL (digs (lb r).length (val (lb r)/s)),iB false]) rfl (cX _ false (cI _ _) (by rw[co];omega)) ?_;simp -dsimp -implicitDefEqProofs only[go_sem,k4,k5,k8,k10,k12,hb4,hb5,hb10,hb12];rw[f1,f2,hdv];rfl
end Go.AM
