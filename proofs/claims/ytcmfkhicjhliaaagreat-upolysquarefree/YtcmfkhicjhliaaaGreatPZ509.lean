/- Lemmas, part 10 of 23. No condition. -/
import Derived.Test.YtcmfkhicjhliaaaGreatPZ508
set_option maxRecDepth 65536
set_option linter.unusedSimpArgs false
set_option linter.unusedVariables false
set_option linter.unusedSectionVars false
namespace Go.AM
open Go.Proofs
theorem i5 (L:List Int) (d:Int):L.map bG++[bG d]=(L++[d]).map bG:=au
def Own (sz:Nat) (rs:List (List C)) (n k:Nat) (τ:Nat->AV) (ε:Nat->EN):Prop:=∃ g mm,0<g/\τ n = .sl k g rs.length/\ε k=⟨g,sz,rs,mm,true⟩
theorem Own.mk {sz:Nat} {rs:List (List C)} {n k g len:Nat} {τ:Nat->AV} {ε:Nat->EN} {mm:Bool} (hg:0<g) (h:τ n = .sl k g len) (hl:len=rs.length) (he:ε k=⟨g,sz,rs,mm,true⟩):Own sz rs n k τ ε:=⟨g,mm,hg,by rw[h,hl],he⟩
theorem Own.mk2 {sz:Nat} {rs rs':List (List C)} {n k g len:Nat} {τ:Nat->AV} {ε:Nat->EN} {mm:Bool} (hg:0<g) (h:τ n = .sl k g len) (he:ε k=⟨g,sz,rs',mm,true⟩) (hl:len=rs'.length) (hr:rs'=rs):Own sz rs n k τ ε:=⟨g,mm,hg,by rw[h,hl,hr],by rw[he,hr]⟩
theorem iY {L:List Int} {e d:Int} (h:e=d):L.map bG++[[C.v (.int .u32 e)]]=(L++[d]).map bG:=by simp[h,bG]
theorem cv {P:Program} {kind:FuncId->CK} {c:Code} {Q:bg->St->Prop} (n k sz:Nat) {rs:List (List C)} {τ:Nat->AV} {β:Nat->BX} {ε:Nat->EN} {π:Nat->MP} (h:τ n = .fl rs) (hsz:∀ r∈rs,r.length=sz)
  (H:m6 P kind c Q ⟨upd τ n (.sl k ((ε k).gen+1) rs.length),β,upd ε k ⟨(ε k).gen+1,sz,rs,false,true⟩,π⟩ ⟨⟩):m6 P kind c Q ⟨τ,β,ε,π⟩ ⟨⟩ :=
 WP.weak (bA.thaw ⟨τ,β,ε,π⟩ n k h hsz) H
theorem be {I:Nat->(Nat->AV)->(Nat->BX)->(Nat->EN)->Prop} {n:Nat} (m n0 k d:Nat) {g len:Nat} {τ:Nat->AV} {β:Nat->BX} {ε:Nat->EN} {π:Nat->MP} (hm:m<n) (h:τ n0 = .sl k g len) (hg:(ε k).gen=g) (hg0:0<g) (hkd:k≠d)
  (hI:I m (upd τ n0 (.sl d ((ε d).gen+1) len)) β (upd (upd ε k ⟨(ε k).gen+1,0,[],false,false⟩) d { ε k with gen:=(ε d).gen+1 })):vE I n ⟨τ,β,ε,π⟩ :=
 vc m (bA.rekey ⟨τ,β,ε,π⟩ n0 k d h hg hg0 hkd) hm hI
theorem repl1 {α:Type} (a:α):List.replicate 1 a=[a]:=(rfl)
theorem repl2 {α:Type} (a:α):List.replicate 2 a=[a,a]:=(rfl)
theorem repl3 {α:Type} (a:α):List.replicate 3 a=[a,a,a]:=(rfl)
theorem set0 {α:Type} (a x:α) (l:List α):(a::l).set 0 x=x::l:=(rfl)
theorem set1 {α:Type} (a b x:α) (l:List α):(a::b::l).set 1 x=a::x::l:=(rfl)
theorem set2 {α:Type} (a b c x:α) (l:List α):(a::b::c::l).set 2 x=a::b::x::l:=(rfl)
theorem xv {α β:Type} (L:List α) (f:α->β):(L.map f).take L.length=L.map f:=by rw[List.take_of_length_le au]
attribute [go_sem] repl1 repl2 repl3 set0 set1 set2 xv
def dg (l:List Int) (i:Nat):Int:=l.getD i 0
theorem oR {l:List Int} {i:Nat} (h:i<l.length):dg l i=l[i]:=by simp[dg,h]
theorem nR {l:List Int} {i:Nat} (h:l.length<=i):dg l i=0:=by simp[dg,h]
theorem u5 {l:List Int} (hd:Dig l) (i:Nat):0<=dg l i/\dg l i<4294967296:=by
 by_cases h:i<l.length
 ·rw[oR h];exact hd.get h
 ·rw[nR aw];omega
theorem eM (l:List Int) (i:Nat):val (l.take (i+1))=val (l.take i)+4294967296 ^ i*dg l i:=by
 by_cases h:i<l.length
 ·rw[oR h,bM h]
 ·rw[nR aw,List.take_of_length_le aw,List.take_of_length_le aw];simp
def jy (a b:List Int):Nat:=if val a+val b<4294967296 ^ (max a.length b.length)then max a.length b.length else max a.length b.length+1
structure xc (a b:List Int) (i:Nat) (L:List Int) (c:Int):Prop where
 hi:i<=max a.length b.length+1
 c0:0<=c
 c1:c<=1
 hl:L.length=i
 hd:Dig L
 hv:val L+4294967296 ^ i*c=val (a.take i)+val (b.take i)
 he:i=max a.length b.length+1->c=0/\4294967296 ^ max a.length b.length<=val a+val b
theorem Rp {P L c A B x y:Int} (h:L+P*c=A+B):L+P*((c+x+y) % 4294967296)+P*4294967296*((c+x+y)/4294967296)=A+P*x+(B+P*y):=by
 have:=Int.emod_add_mul_ediv (c+x+y) 4294967296
 grind
theorem xc.step {a b:List Int} {i:Nat} {L:List Int} {c:Int} (ha:Dig a) (hb:Dig b) (h:xc a b i L c) (hc:i<a.length\/i<b.length\/0<c) :
  i<max a.length b.length+1/\xc a b (i+1) (L++[(c+dg a i+dg b i) % 4294967296]) ((c+dg a i+dg b i)/4294967296):=by
 obtain⟨hi,c0,c1,hl,hd,hv,he⟩:=h;have b1:=u5 ha i;have b2:=u5 hb i;have hlt:i<max a.length b.length+1:=by
  refine Nat.lt_of_le_of_ne hi fun e=>?_;have:=(he e).1;omega
 refine⟨hlt,aw,aw,aw,by simp[hl],hd.snoc aw,?_,fun e=>?_⟩
 ·rw[fq,hl,eM,eM,Int.pow_succ];exact Rp hv
 ·have e1:i=max a.length b.length:=aw;have e2:dg a i=0:=nR aw;have e3:dg b i=0:=nR aw;have e4:c=1:=aw;rw[e2,e3,e4];refine⟨aH,?_⟩;rw[List.take_of_length_le aw,List.take_of_length_le aw,e4]at hv;have:=bm hd;rw[<-e1];omega
theorem xc.done {a b:List Int} {i:Nat} {L:List Int} {c:Int} (h:xc a b i L c) (h1:¬ i<a.length) (h2:¬ i<b.length) (h3:¬ 0<c):L=digs (jy a b) (val a+val b):=by
 obtain⟨hi,c0,c1,hl,hd,hv,he⟩:=h;have e:c=0:=aw;subst e;rw[List.take_of_length_le aw,List.take_of_length_le aw]at hv;have hv':val L=val a+val b:=aw;refine iO hd ?_ hv';rw[hl,jy];have:=eA hd;rw[hv',hl]at this;split
 ·rename_i hlt;by_cases e1:i=max a.length b.length+1
  ·have:=(he e1).2;omega
  ·omega
 ·rename_i hge;by_cases e1:i=max a.length b.length
  ·rw[e1]at this;omega
  ·omega
theorem Kd (a b:List Int) (ha:Dig a) (hb:Dig b) (hla:a.length<4398046511104) (hlb:b.length<4398046511104):Fn Tryz.prog 178 [iL a,iL b] [iL (digs (jy a b) (val a+val b))]:=by
 refine aJ (fn:=Tryz.f178) ?_;simp -dsimp only[go_sem];refine cv 5 5 1 rfl au ?_;refine bt [(5,7),(9,53)] [] [(5,5),(51,51)] (fun m τ β ε=>∃(i:Nat) (L:List Int) (c:Int),m=max a.length b.length+1-i/\τ 7=aI i/\τ 6=aW c/\xc a b i L c/\Own 1 (L.map bG) 5 5 τ ε)
  (fun e τ β ε=>e = .exit 0/\Own 1 ((digs (jy a b) (val a+val b)).map bG) 5 5 τ ε) (max a.length b.length+1) ?_ ?_ ?_
 ·refine⟨0,[],0,rfl,rfl,rfl,⟨aw,aw,aw,rfl,Dig.nil,rfl,fun h=>by omega⟩,?_⟩;exact Own.mk (g:=1) (mm:=false) aw rfl rfl rfl
 ·rintro m τ β ε π hK hKB hKE ⟨i,L,c,hm,h7,h6,hI,g,mm,hg,h5,he⟩;have h0:τ 0=aL a:=hK 0 aH;have h1:τ 1=aL b:=hK 1 aH;have c0:=hI.c0;have c1:=hI.c1;have hi:=hI.hi;have hl:=hI.hl;rw[az]at h5;by_cases hA:(i:Int)<a.length
  ·obtain⟨hi',hS⟩:=hI.step ha hb aw;have ba:=ha.get (i:=i) aw;by_cases hB:(i:Int)<b.length
   ·have bb:=hb.get (i:=i) aw;rw[oR aw,oR aw]at hS;simp -dsimp only[go_sem,h0,h1,h5,h6,h7,he,hA,hB,i5]
    repeat(refine And.intro aw ?_)
    refine aV aw ?_;simp -dsimp only[go_sem,h0,h1,h5,h6,h7,he,hA,hB,i5]
    repeat(refine And.intro aw ?_)
    refine aV aw ?_;simp -dsimp only[go_sem,h0,h1,h5,h6,h7,he,hA,hB,i5]
    repeat(refine And.intro aw ?_)
    refine be (max a.length b.length+1-(i+1)) 5 51 5 aw rfl rfl aw aH ⟨?_,?_,?_,i+1,_,_,rfl,?_,?_,hS,?_⟩
    ·exact(aA hK)
    ·exact hKB
    ·exact(aA hKE)
    ·simp -dsimp only[go_sem]
    ·simp -dsimp only[go_sem];exact wW (by rw[Int.tdiv_eq_ediv_of_nonneg aw];omega)
    ·exact Own.mk2 (Nat.succ_pos _) (by simp -dsimp only[go_sem];rfl) (by simp -dsimp only[go_sem];rfl) au (iY aw)
   ·rw[oR aw,nR aw]at hS;simp -dsimp only[go_sem,h0,h1,h5,h6,h7,he,hA,hB,i5]
    repeat(refine And.intro aw ?_)
    refine aV aw ?_;simp -dsimp only[go_sem,h0,h1,h5,h6,h7,he,hA,hB,i5]
    repeat(refine And.intro aw ?_)
    refine be (max a.length b.length+1-(i+1)) 5 51 5 aw rfl rfl aw aH ⟨?_,?_,?_,i+1,_,_,rfl,?_,?_,hS,?_⟩
    ·exact(aA hK)
    ·exact hKB
    ·exact(aA hKE)
    ·simp -dsimp only[go_sem]
    ·simp -dsimp only[go_sem];exact wW (by rw[Int.tdiv_eq_ediv_of_nonneg aw];omega)
    ·exact Own.mk2 (Nat.succ_pos _) (by simp -dsimp only[go_sem];rfl) (by simp -dsimp only[go_sem];rfl) au (iY aw)
  ·by_cases hB:(i:Int)<b.length
   ·obtain⟨hi',hS⟩:=hI.step ha hb aw;have bb:=hb.get (i:=i) aw;rw[nR aw,oR aw]at hS;simp -dsimp only[go_sem,h0,h1,h5,h6,h7,he,hA,hB,i5]
    repeat(refine And.intro aw ?_)
    refine aV aw ?_;simp -dsimp only[go_sem,h0,h1,h5,h6,h7,he,hA,hB,i5]
    repeat(refine And.intro aw ?_)
    refine be (max a.length b.length+1-(i+1)) 5 51 5 aw rfl rfl aw aH ⟨?_,?_,?_,i+1,_,_,rfl,?_,?_,hS,?_⟩
    ·exact(aA hK)
    ·exact hKB
    ·exact(aA hKE)
    ·simp -dsimp only[go_sem]
    ·simp -dsimp only[go_sem];exact wW (by rw[Int.tdiv_eq_ediv_of_nonneg aw];omega)
    ·exact Own.mk2 (Nat.succ_pos _) (by simp -dsimp only[go_sem];rfl) (by simp -dsimp only[go_sem];rfl) au (iY aw)
   ·by_cases hC:0<c
    ·obtain⟨hi',hS⟩:=hI.step ha hb aw;rw[nR aw,nR aw]at hS;simp -dsimp only[go_sem,h0,h1,h5,h6,h7,he,hA,hB,hC,i5]
     repeat(refine And.intro aw ?_)
     refine be (max a.length b.length+1-(i+1)) 5 51 5 aw rfl rfl aw aH ⟨?_,?_,?_,i+1,_,_,rfl,?_,?_,hS,?_⟩
     ·exact(aA hK)
     ·exact hKB
     ·exact(aA hKE)
     ·simp -dsimp only[go_sem]
     ·simp -dsimp only[go_sem];exact wW (by rw[Int.tdiv_eq_ediv_of_nonneg aw];omega)
     ·exact Own.mk2 (Nat.succ_pos _) (by simp -dsimp only[go_sem];rfl) (by simp -dsimp only[go_sem];rfl) au (iY aw)
    ·simp -dsimp only[go_sem,h0,h1,h5,h6,h7,he,hA,hB,hC];rw[<-hI.done aw aw hC];refine⟨(aA hK),hKB,hKE,?_⟩;exact Own.mk2 hg h5 he au rfl
 ·rintro e τ β ε π hK hKB hKE ⟨rfl,g,mm,hg,h5,he⟩;refine⟨_,bA.freeze _ 5,?_⟩;simp -dsimp only[go_sem,h5,he,hg]
structure pC (a b:List Int) (i:Nat) (L:List Int) (c:Int):Prop where
 hi:i<=a.length
 c0:0<=c
 c1:c<=1
 hl:L.length=i
 hd:Dig L
 hv:val L+val (b.take i)=val (a.take i)+4294967296 ^ i*c
theorem Rq {P L c A B x y d:Int} (h:L+B=A+P*c) (e:d=x-c-y):L+P*d+(B+P*y)=A+P*x:=by
 subst e;grind
theorem Pz {P L c A B x y d:Int} (h:L+B=A+P*c) (e:d=x-c-y+4294967296):L+P*d+(B+P*y)=A+P*x+P*4294967296*1:=by
 subst e;grind
theorem pC.step {a b:List Int} {i:Nat} {L:List Int} {c:Int} (ha:Dig a) (hb:Dig b) (h:pC a b i L c) (hc:i<a.length) :
  (0<=dg a i-c-dg b i->pC a b (i+1) (L++[dg a i-c-dg b i]) 0)/\(dg a i-c-dg b i<0->pC a b (i+1) (L++[dg a i-c-dg b i+4294967296]) 1):=by
 obtain⟨hi,c0,c1,hl,hd,hv⟩:=h;have b1:=u5 ha i;have b2:=u5 hb i;refine⟨fun h=>⟨aw,aw,aw,by simp[hl],hd.snoc aw,?_⟩,fun h=>⟨aw,aw,aw,by simp[hl],hd.snoc aw,?_⟩⟩
 ·rw[fq,hl,eM,eM,Int.mul_zero,Int.add_zero];exact Rq hv rfl
 ·rw[fq,hl,eM,eM,Int.pow_succ];exact Pz hv rfl
theorem pC.done {a b:List Int} {i:Nat} {L:List Int} {c:Int} (h:pC a b i L c) (hlb:b.length<=a.length) (hle:val b<=val a) (h1:¬ i<a.length):L=digs a.length (val a-val b):=by
 obtain⟨hi,c0,c1,hl,hd,hv⟩:=h;have e:i=a.length:=aw;rw[List.take_of_length_le aw,List.take_of_length_le aw]at hv;have h2:=eA hd;rw[hl]at h2;have:c=0:=by
  by_cases h3:c=0
  ·exact h3
  ·have h4:c=1:=aw;rw[h4]at hv;omega
 rw[this]at hv;exact iO hd aw aw
theorem w9 (a b:List Int) (ha:Dig a) (hb:Dig b) (hla:a.length<4398046511104) (hlb:b.length<=a.length) (hle:val b<=val a):Fn Tryz.prog 180 [iL a,iL b] [iL (digs a.length (val a-val b))]:=by
 refine aJ (fn:=Tryz.f180) ?_;simp -dsimp only[go_sem];refine cv 5 5 1 rfl au ?_;refine bt [(5,8),(10,42)] [] [(5,5),(42,42)] (fun m τ β ε=>∃(i:Nat) (L:List Int) (c:Int),m=a.length-i/\τ 7=aI i/\τ 6=aI c/\pC a b i L c/\Own 1 (L.map bG) 5 5 τ ε)
  (fun e τ β ε=>e = .exit 0/\Own 1 ((digs a.length (val a-val b)).map bG) 5 5 τ ε) a.length ?_ ?_ ?_
 ·refine⟨0,[],0,rfl,rfl,rfl,⟨aw,aw,aw,rfl,Dig.nil,rfl⟩,?_⟩;exact Own.mk (g:=1) (mm:=false) aw rfl rfl rfl
 ·rintro m τ β ε π hK hKB hKE ⟨i,L,c,hm,h7,h6,hI,g,mm,hg,h5,he⟩;have h0:τ 0=aL a:=hK 0 aH;have h1:τ 1=aL b:=hK 1 aH;have c0:=hI.c0;have c1:=hI.c1;have hi:=hI.hi;have hl:=hI.hl;rw[az]at h5;by_cases hA:(i:Int)<a.length
  ·have hS:=hI.step ha hb aw;have ba:=ha.get (i:=i) aw;have b2:=u5 hb i;rw[oR (l:=a) aw]at hS;have e1:=jQ a[i] aw aw;by_cases hB:(i:Int)<b.length
   ·have bb:=hb.get (i:=i) aw;have e2:=jQ b[i] aw aw;rw[oR (l:=b) aw]at hS;by_cases hN:a[i]-c-b[i]<0
    ·simp -dsimp only[go_sem,h0,h1,h5,h6,h7,he,hA,hB,e1,e2,hN]
     repeat(refine And.intro aw ?_)
     refine aV aw ?_;simp -dsimp only[go_sem,h0,h1,h5,h6,h7,he,hA,hB,e1,e2,hN]
     repeat(refine And.intro aw ?_)
     refine aV aw ?_;simp -dsimp only[go_sem,h0,h1,h5,h6,h7,he,hA,hB,e1,e2,hN]
     repeat(refine And.intro aw ?_)
     refine be (a.length-(i+1)) 5 42 5 aw rfl rfl aw aH ⟨?_,?_,?_,i+1,_,_,rfl,?_,?_,hS.2 aw,?_⟩
     ·exact(aA hK)
     ·exact hKB
     ·exact(aA hKE)
     ·simp -dsimp only[go_sem]
     ·simp -dsimp only[go_sem]
     ·exact Own.mk2 (Nat.succ_pos _) (by simp -dsimp only[go_sem];rfl) (by simp -dsimp only[go_sem];rfl) au (iY aw)
    ·simp -dsimp only[go_sem,h0,h1,h5,h6,h7,he,hA,hB,e1,e2,hN]
     repeat(refine And.intro aw ?_)
     refine aV aw ?_;simp -dsimp only[go_sem,h0,h1,h5,h6,h7,he,hA,hB,e1,e2,hN]
     repeat(refine And.intro aw ?_)
     refine aV aw ?_;simp -dsimp only[go_sem,h0,h1,h5,h6,h7,he,hA,hB,e1,e2,hN]
     repeat(refine And.intro aw ?_)
     refine be (a.length-(i+1)) 5 42 5 aw rfl rfl aw aH ⟨?_,?_,?_,i+1,_,_,rfl,?_,?_,hS.1 aw,?_⟩
     ·exact(aA hK)
     ·exact hKB
     ·exact(aA hKE)
     ·simp -dsimp only[go_sem]
     ·simp -dsimp only[go_sem]
     ·exact Own.mk2 (Nat.succ_pos _) (by simp -dsimp only[go_sem];rfl) (by simp -dsimp only[go_sem];rfl) au (iY aw)
   ·rw[nR (l:=b) aw]at hS;by_cases hN:a[i]-c<0
    ·simp -dsimp only[go_sem,h0,h1,h5,h6,h7,he,hA,hB,e1,hN]
     repeat(refine And.intro aw ?_)
     refine aV aw ?_;simp -dsimp only[go_sem,h0,h1,h5,h6,h7,he,hA,hB,e1,hN]
     repeat(refine And.intro aw ?_)
     refine be (a.length-(i+1)) 5 42 5 aw rfl rfl aw aH ⟨?_,?_,?_,i+1,_,_,rfl,?_,?_,hS.2 aw,?_⟩
     ·exact(aA hK)
     ·exact hKB
     ·exact(aA hKE)
     ·simp -dsimp only[go_sem]
     ·simp -dsimp only[go_sem]
     ·exact Own.mk2 (Nat.succ_pos _) (by simp -dsimp only[go_sem];rfl) (by simp -dsimp only[go_sem];rfl) au (iY aw)
    ·simp -dsimp only[go_sem,h0,h1,h5,h6,h7,he,hA,hB,e1,hN]
     repeat(refine And.intro aw ?_)
     refine aV aw ?_;simp -dsimp only[go_sem,h0,h1,h5,h6,h7,he,hA,hB,e1,hN]
     repeat(refine And.intro aw ?_)
     refine be (a.length-(i+1)) 5 42 5 aw rfl rfl aw aH ⟨?_,?_,?_,i+1,_,_,rfl,?_,?_,hS.1 aw,?_⟩
     ·exact(aA hK)
     ·exact hKB
     ·exact(aA hKE)
     ·simp -dsimp only[go_sem]
     ·simp -dsimp only[go_sem]
     ·exact Own.mk2 (Nat.succ_pos _) (by simp -dsimp only[go_sem];rfl) (by simp -dsimp only[go_sem];rfl) au (iY aw)
  ·simp -dsimp only[go_sem,h0,h1,h5,h6,h7,he,hA];rw[<-hI.done hlb hle aw];refine⟨(aA hK),hKB,hKE,?_⟩;exact Own.mk2 hg h5 he au rfl
 ·rintro e τ β ε π hK hKB hKE ⟨rfl,g,mm,hg,h5,he⟩;refine⟨_,bA.freeze _ 5,?_⟩;simp -dsimp only[go_sem,h5,he,hg]
theorem zJ {a b:List Int} (ha:Dig a) (hb:Dig b):val a+val b<4294967296 ^ jy a b:=by
 have h1:=eA ha;have h2:=eA hb;have h3:=mg (a:=a.length) (b:=max a.length b.length) aw;have h4:=mg (a:=b.length) (b:=max a.length b.length) aw;rw[jy];split
 ·assumption
 ·rw[Int.pow_succ];omega
theorem Cb (a b:List Int):jy a b<=max a.length b.length+1:=by rw[jy];split<;>omega
theorem tt (a b:Int) (hla:(lb a).length<549755813888) (hlb:(lb b).length<549755813888):Fn Tryz.prog 139 [iZ a,iZ b] [iZ (a+b)]:=by
 have hs:=Cb (lb a) (lb b);have hv:val (digs (jy (lb a) (lb b)) (val (lb a)+val (lb b)))=(a.natAbs+b.natAbs:Int):=by
  rw[f0 (by rw[bD,bD];omega) (zJ (bU a) (bU b)),bD,bD]
 refine aJ (fn:=Tryz.f139) ?_;simp -dsimp only[go_sem];refine ld (fun h=>?_) (fun h=>?_)<;>simp -dsimp only[go_sem]
 ·refine ap 8 [] false true ?_;simp -dsimp only[go_sem];refine aK (Kd (lb a) (lb b) (bU a) (bU b) aw aw) ?_;simp -dsimp only[go_sem];refine aK (dJ _ _ (dw _ _) (by rw[cP];omega)) ?_;simp -dsimp only[go_sem];refine kJ ?_;rw[hv];have hh:(a<0)↔(b<0):=by simpa using h
  split<;>rename_i h1<;>simp only[decide_eq_true_eq]at h1<;>omega
 ·have hh:¬ ((a<0)↔(b<0)):=by simpa using h
  refine aK (s6 a b aw) ?_;simp -dsimp only[go_sem];refine bi (fun h=>?_) (fun h=>?_)<;>simp -dsimp only[go_sem]
  ·refine ap 8 [] false true ?_;simp -dsimp only[go_sem];refine aK (w9 (lb b) (lb a) (bU b) (bU a) aw (fI (Int.lt_trans h (fX b))) (by rw[bD,bD];omega)) ?_;simp -dsimp only[go_sem];refine aK (dJ _ _ (dw _ _) (by rw[cP];omega)) ?_;simp -dsimp only[go_sem];refine kJ ?_;rw[bD,bD,ke aw];split<;>rename_i h1<;>simp only[decide_eq_true_eq]at h1<;>omega
  ·refine ap 8 [] false true ?_;simp -dsimp only[go_sem];refine aK (w9 (lb a) (lb b) (bU a) (bU b) aw (fI (Int.lt_of_le_of_lt aw (fX a))) (by rw[bD,bD];omega)) ?_;simp -dsimp only[go_sem];refine aK (dJ _ _ (dw _ _) (by rw[cP];omega)) ?_;simp -dsimp only[go_sem];refine kJ ?_;rw[bD,bD,ke aw];split<;>rename_i h1<;>simp only[decide_eq_true_eq]at h1<;>omega
theorem EJ (a b:Int) (hla:(lb a).length<549755813888) (hlb:(lb b).length<549755813888):Fn Tryz.prog 222 [iZ a,iZ b] [iZ (a-b)]:=by
 refine aJ (fn:=Tryz.f222) ?_;simp -dsimp only[go_sem];refine ap 4 [] false true ?_;simp -dsimp only[go_sem];refine aK (oG b aw) ?_;simp -dsimp only[go_sem];refine aK (tt a (-b) aw (by rw[kU];omega)) ?_;simp -dsimp only[go_sem];exact kJ aw
structure vl (a b:List Int) (i:Nat) (L:List Int):Prop where
 hi:i<=a.length
 hl:L.length=a.length+b.length+1
 hd:Dig L
 hv:val L=val (a.take i)*val b
 hz:∀ j (h:j<L.length),i+b.length<=j->L[j]=0
structure qA (a b:List Int) (i:Nat) (L:List Int) (k:Nat) (M:List Int) (c:Int):Prop where
 hk:k<=b.length+1
 c0:0<=c
 c1:c<4294967296
 hl:M.length=a.length+b.length+1
 hd:Dig M
 hv:val M+4294967296 ^ (i+k)*c=val L+4294967296 ^ i*(dg a i*val (b.take k))
 hz:∀ j (h:j<M.length),i+max b.length k<=j->M[j]=0
 he:k=b.length+1->c=0
theorem qA.zero {a b:List Int} {i:Nat} {L:List Int} (h:vl a b i L):qA a b i L 0 L 0 :=
 ⟨aw,aw,aw,h.hl,h.hd,by simp[val],fun j hj hle=>h.hz j hj aw,fun h=>by omega⟩
theorem Rn {M L c z m Pi Pk V r q x y:Int} (h:M+Pi*Pk*c=L+Pi*(x*V)) (e:r+4294967296*q=c+z+m) (hz:z=x*y):M+Pi*Pk*(r-m)+Pi*(Pk*4294967296)*q=L+Pi*(x*(V+Pk*y)):=by
 subst hz;grind
theorem qA.step {a b:List Int} {i:Nat} {L:List Int} {k:Nat} {M:List Int} {c:Int} (ha:Dig a) (hb:Dig b) (h:qA a b i L k M c) (hc:k<b.length\/0<c) (hik:i+k<M.length) :
  k<b.length+1/\0<=dg a i*dg b k/\c+dg a i*dg b k+M[i+k]<18446744073709551616/\qA a b i L (k+1) (M.set (i+k) ((c+dg a i*dg b k+M[i+k]) % 4294967296)) ((c+dg a i*dg b k+M[i+k])/4294967296):=by
 obtain⟨hk,c0,c1,hl,hd,hv,hz,he⟩:=h;have b1:=u5 ha i;have b2:=u5 hb k;have hm:=hd.get hik;have hlt:k<b.length+1:=by
  refine Nat.lt_of_le_of_ne hk fun e=>?_;have:=he e;omega
 have p1:0<=dg a i*dg b k:=Int.mul_nonneg b1.1 b2.1;have p2:dg a i*dg b k<=4294967295*4294967295:=Int.mul_le_mul aw aw b2.1 aw;refine⟨hlt,p1,aw,aw,aw,aw,by simp[hl],hd.set aw,?_,?_,fun e=>?_⟩
 ·rw[ju hik,eM];have e4:(4294967296:Int) ^ (i+(k+1))=4294967296 ^ i*(4294967296 ^ k*4294967296):=by rw[Int.pow_add,Int.pow_succ]
  have e5:(4294967296:Int) ^ (i+k)=4294967296 ^ i*4294967296 ^ k:=Int.pow_add ..;rw[e5]at hv ⊢;rw[e4];exact Rn hv (Int.emod_add_mul_ediv ..) rfl
 ·intro j hj hle;rw[List.getElem_set_ne aw];exact hz j _ aw
 ·have e1:k=b.length:=aw;have e2:dg b k=0:=nR aw;have e3:=hz (i+k) hik aw;rw[e2,e3];omega
theorem qA.done {a b:List Int} {i:Nat} {L:List Int} {k:Nat} {M:List Int} {c:Int} (hL:vl a b i L) (hi:i<a.length) (h:qA a b i L k M c) (h1:¬ k<b.length) (h2:¬ 0<c):vl a b (i+1) M:=by
 obtain⟨hk,c0,c1,hl,hd,hv,hz,he⟩:=h;refine⟨aw,hl,hd,?_,fun j hj hle=>hz j hj aw⟩;have e:c=0:=aw;rw[e,hL.hv,List.take_of_length_le (l:=b) aw]at hv;rw[eM]
 grind
theorem vl.done {a b:List Int} {i:Nat} {L:List Int} (h:vl a b i L) (h1:¬ i<a.length):L.length=a.length+b.length+1/\Dig L/\val L=val a*val b:=by
 refine⟨h.hl,h.hd,?_⟩;rw[h.hv,List.take_of_length_le aw]
theorem mulrow {c m x y:Int} (hc:0<=c/\c<4294967296) (hm:0<=m/\m<4294967296) (hx:0<=x/\x<4294967296) (hy:0<=y/\y<4294967296) (h0:0<=x*y) (h:c+x*y+m<18446744073709551616) :
  ((c+m % 18446744073709551616) % 18446744073709551616+x % 18446744073709551616*(y % 18446744073709551616) % 18446744073709551616) % 18446744073709551616=c+x*y+m:=by
 rw[Int.emod_eq_of_lt hx.1 aw,Int.emod_eq_of_lt hy.1 aw];generalize x*y=z at *
 omega
theorem Lc {a b:Int}:(if(!decide (a<0) == decide (b<0))=true then -((a.natAbs:Int)*b.natAbs)else(a.natAbs:Int)*b.natAbs)=a*b:=by
 by_cases h:a<0<;>by_cases h':b<0
 ·have e1:(a.natAbs:Int) = -a:=aw;have e2:(b.natAbs:Int) = -b:=aw;simp[h,h',e1,e2,Int.neg_mul,Int.mul_neg]
 ·have e1:(a.natAbs:Int) = -a:=aw;have e2:(b.natAbs:Int)=b:=aw;simp[h,h',e1,e2,Int.neg_mul,Int.mul_neg]
 ·have e1:(a.natAbs:Int)=a:=aw;have e2:(b.natAbs:Int) = -b:=aw;simp[h,h',e1,e2,Int.neg_mul,Int.mul_neg]
 ·have e1:(a.natAbs:Int)=a:=aw;have e2:(b.natAbs:Int)=b:=aw;simp[h,h',e1,e2,Int.neg_mul,Int.mul_neg]
theorem iS (a b:Int) (hla:(lb a).length<274877906944) (hlb:(lb b).length<274877906944):Fn Tryz.prog 140 [iZ a,iZ b] [iZ (a*b)]:=by
 have hA:=bU a;have hB:=bU b;refine aJ (fn:=Tryz.f140) ?_;simp -dsimp only[go_sem]
 repeat(refine And.intro aw ?_)
 refine bt [(6,8),(18,73)] [] [(17,17)] (fun m τ β ε=>∃(i:Nat) (L:List Int),m=(lb a).length-i/\τ 6=aI i/\vl (lb a) (lb b) i L/\ε 17=⟨1,1,L.map bG,true,true⟩)
  (fun e τ β ε=>e = .exit 0/\∃ L:List Int,L.length=(lb a).length+(lb b).length+1/\Dig L/\val L=val (lb a)*val (lb b)/\ε 17=⟨1,1,L.map bG,true,true⟩) (lb a).length ?_ ?_ ?_
 ·refine⟨0,List.replicate ((lb a).length+(lb b).length+1) 0,rfl,rfl,⟨aw,au,Dig.replicate _,by rw[kN];simp[val],fun j h _=>by simp⟩,?_⟩;simp -dsimp only[go_sem];simp[eV]
 ·rintro m τ β ε π hK hKB hKE ⟨i,L,hm,h6,hI,he⟩;have h2:τ 2 = .bp 2 1 0:=hK 2 aH;have h3:τ 3 = .bp 3 1 0:=hK 3 aH;have h5:τ 5 = .sl 17 1 ((lb a).length+(lb b).length+1):=hK 5 aH;have hb2:β 2=⟨1,eZ a⟩:=hKB 2 aH;have hb3:β 3=⟨1,eZ b⟩:=hKB 3 aH;have hi:=hI.hi;have hl:=hI.hl;by_cases hA':(i:Int)<(lb a).length
  ·have hia:i<(lb a).length:=aw;simp -dsimp only[go_sem,h2,h3,h5,h6,hb2,hb3,he,hA'];refine a8 [(7,8),(25,73)] [] [(17,17)] (fun m τ β ε=>∃(k:Nat) (M:List Int) (c:Int),m=(lb b).length+1-k/\τ 8=aI k/\τ 7=aW c/\qA (lb a) (lb b) i L k M c/\ε 17=⟨1,1,M.map bG,true,true⟩)
    (fun e τ β ε=>e = .exit 2/\∃ M:List Int,vl (lb a) (lb b) (i+1) M/\ε 17=⟨1,1,M.map bG,true,true⟩) ((lb b).length+1) ?_ ?_ ?_
   ·exact⟨0,L,0,rfl,rfl,rfl,qA.zero hI,he⟩
   ·rintro m' τ' β' ε' π' hK' hKB' hKE' ⟨k,M,c,hm',h8,h7,hJ,he'⟩;have g2:τ' 2 = .bp 2 1 0:=(hK' 2 aH).trans h2;have g3:τ' 3 = .bp 3 1 0:=(hK' 3 aH).trans h3;have g5:τ' 5 = .sl 17 1 ((lb a).length+(lb b).length+1):=(hK' 5 aH).trans h5;have g6:τ' 6=aI i:=(hK' 6 aH).trans h6;have gb2:β' 2=⟨1,eZ a⟩:=(hKB' 2 aH).trans hb2;have gb3:β' 3=⟨1,eZ b⟩:=(hKB' 3 aH).trans hb3;have c0:=hJ.c0;have c1:=hJ.c1;have hk:=hJ.hk;have hJl:=hJ.hl;by_cases hB':(k:Int)<(lb b).length
    ·have hkb:k<(lb b).length:=aw;have hik:i+k<M.length:=aw;have hm:=hJ.hd.get hik;have hai:=hA.get hia;have hbk:=hB.get hkb;obtain⟨s1,s2,s3,s4⟩:=hJ.step hA hB (.inl hkb) hik;rw[oR hia,oR hkb]at s2 s3 s4;simp -dsimp only[go_sem,g2,g3,g5,g6,gb2,gb3,h7,h8,he',hB']
     repeat(refine And.intro aw ?_)
     refine aV hik ?_;simp -dsimp only[go_sem,g2,g3,g5,g6,gb2,gb3,h7,h8,he',hB'];refine ap 16 [] false true ?_;simp -dsimp only[go_sem,g2,g3,g5,g6,gb2,gb3,h7,h8,he',hB']
     repeat(refine And.intro aw ?_)
     refine aV hia ?_;simp -dsimp only[go_sem,g2,g3,g5,g6,gb2,gb3,h7,h8,he',hB']
     repeat(refine And.intro aw ?_)
     refine aV hkb ?_;simp -dsimp only[go_sem,g2,g3,g5,g6,gb2,gb3,h7,h8,he',hB']
     repeat(refine And.intro aw ?_)
     refine aV hik ?_;have e3:=mulrow ⟨c0,c1⟩ hm hai hbk s2 s3;simp -dsimp only[go_sem,g2,g3,g5,g6,gb2,gb3,h7,h8,he',hB',e3]
     repeat(refine And.intro aw ?_)
     refine again ((lb b).length+1-(k+1)) aw ⟨(aA hK'),(aA hKB'),(aA hKE'),k+1,_,_,rfl,rfl,?_,s4,?_⟩
     ·simp -dsimp only[go_sem];refine wW ?_;rw[Int.tdiv_eq_ediv_of_nonneg aw];generalize (lb a)[i]*(lb b)[k]=z at *
      omega
     ·simp -dsimp only[go_sem]
    ·by_cases hC:0<c
     ·have hik:i+k<M.length:=aw;have hm:=hJ.hd.get hik;have hai:=hA.get hia;obtain⟨s1,s2,s3,s4⟩:=hJ.step hA hB (.inr hC) hik;rw[nR (l:=lb b) aw,Int.mul_zero]at s2 s3 s4;simp -dsimp only[go_sem,g2,g3,g5,g6,gb2,gb3,h7,h8,he',hB',hC]
      repeat(refine And.intro aw ?_)
      refine aV hik ?_;simp -dsimp only[go_sem,g2,g3,g5,g6,gb2,gb3,h7,h8,he',hB']
      repeat(refine And.intro aw ?_)
      refine aV hik ?_;simp -dsimp only[go_sem,g2,g3,g5,g6,gb2,gb3,h7,h8,he',hB']
      repeat(refine And.intro aw ?_)
      have e3:(c+M[i+k] % 18446744073709551616) % 18446744073709551616=c+0+M[i+k]:=aw;refine again ((lb b).length+1-(k+1)) aw ⟨(aA hK'),(aA hKB'),(aA hKE'),k+1,_,_,rfl,rfl,?_,s4,?_⟩
      ·simp -dsimp only[go_sem,e3];refine wW ?_;rw[Int.tdiv_eq_ediv_of_nonneg aw];omega
      ·simp -dsimp only[go_sem,e3]
     ·simp -dsimp only[go_sem,g2,g3,g5,g6,gb2,gb3,h7,h8,he',hB',hC];exact⟨(aA hK'),(aA hKB'),(aA hKE'),M,hJ.done hI hia aw hC,rfl⟩
   ·rintro e τ' β' ε' π' hK' hKB' hKE' ⟨rfl,M,hM,he'⟩;have g6:τ' 6=aI i:=(hK' 6 aH).trans h6;have hKo:=Kp.step2 hK hK' (by intro n;simp[inR];omega) (by simp -dsimp only[go_sem,hK]);have hKBo:=Kp.step2 hKB hKB' (by simp[inR]) hKB;have hKEo:=Kp.step2 hKE hKE' (by simp[inR]) hKE;simp -dsimp only[go_sem,g6,he']
    repeat(refine And.intro aw ?_)
    exact again ((lb a).length-(i+1)) aw ⟨(aA hKo),hKBo,hKEo,i+1,M,rfl,rfl,hM,he'⟩
  ·simp -dsimp only[go_sem,h2,h3,h5,h6,hb2,hb3,he,hA'];obtain⟨d1,d2,d3⟩:=hI.done aw;exact⟨(aA hK),hKB,hKE,L,d1,d2,d3,rfl⟩
 ·rintro e τ β ε π hK hKB hKE ⟨rfl,L,hl,hd,hv,he⟩;have h2:τ 2 = .bp 2 1 0:=hK 2 aH;have h3:τ 3 = .bp 3 1 0:=hK 3 aH;have h4:τ 4 = .bp 4 1 0:=hK 4 aH;have h5:τ 5 = .sl 17 1 ((lb a).length+(lb b).length+1):=hK 5 aH;have hb2:β 2=⟨1,eZ a⟩:=hKB 2 aH;have hb3:β 3=⟨1,eZ b⟩:=hKB 3 aH;have hb4:β 4=⟨1,lL false []⟩:=hKB 4 aH;refine⟨_,bA.freeze _ 17,?_⟩;simp -dsimp only[go_sem,h2,h3,h4,h5,hb2,hb3,hb4,he];rw[List.take_of_length_le (by simp[hl])];refine aK (dJ L _ hd aw) ?_;simp -dsimp only[go_sem,h2,h3,h4,h5,hb2,hb3,hb4,he];refine kJ ?_;rw[hv,bD,bD];exact Lc
theorem w6 (a:List Int) (d:Int) (Q:List Int) (r:Int) (ha:Dig a) (hd:0<d/\d<4294967296) (hla:a.length<17592186044416) (hQ:Q=digs a.length (val a/d)) (hr:r=val a % d) :
  Fn Tryz.prog 240 [iL a,iU d] [iL Q,iU r]:=by
 refine aJ (fn:=Tryz.f240) ?_;simp -dsimp only[go_sem]
 repeat(refine And.intro aw ?_)
 refine a8 [(7,8),(15,38)] [] [(11,11)] (fun n τ β ε=>n<=a.length/\τ 8=aI ((n:Int)-1)/\∃ s,τ 7=aW s/\s=val (a.drop n) % d /\
   ∃(l m:List Int),ε 11=⟨1,1,(l++m).map bG,true,true⟩/\l.length=n/\(l++m).length=a.length/\Dig m/\val m=val (a.drop n)/d)
  (fun e τ β ε=>e = .exit 0/\τ 7=aW (val a % d)/\∃(m:List Int),ε 11=⟨1,1,m.map bG,true,true⟩/\m.length=a.length/\Dig m/\val m=val a/d) a.length ?_ ?_ ?_
 ·refine⟨aw,by simp[bT],0,by simp[bT],by simp[val],List.replicate a.length 0,[],?_,au,au,Dig.nil,?_⟩
  ·simp[bT,eV]
  ·simp[val]
 ·rintro n τ β ε π hK hKB hKE ⟨hn,h8,s,h7,hs,l,m,hE,hl,hlm,hD,hv⟩;have h0:τ 0=aL a:=hK 0 aH;have h1:τ 1=aU d:=hK 1 aH;have h6:τ 6 = .sl 11 1 a.length:=hK 6 aH;have hm0:=Int.emod_nonneg (val (a.drop n)) (b:=d) aw;have hm1:=Int.emod_lt_of_pos (val (a.drop n)) hd.1;rw[<-hs]at hm0 hm1;have hdm:=Int.emod_add_mul_ediv (val (a.drop n)) d;rw[<-hs,<-hv]at hdm;simp -dsimp only[go_sem,h0,h1,h6,h7,h8,hE];refine bi (fun h=>?_) (fun h=>?_)<;>simp -dsimp only[go_sem,h0,h1,h6,h7,h8,hE,hK,hKB,hKE]
  ·have hna:n-1<a.length:=aw;have hai:=ha.get hna;have hn1:n-1+1=n:=aw;have hvd:=cd hna;rw[hn1]at hvd;obtain⟨l,x,rfl,hl'⟩:=sY (l:=l) (n:=n-1) aw
   repeat(refine And.intro aw ?_)
   refine cf (n-1) aw hna ?_;simp -dsimp only[go_sem,h0,h1,h6,h7,h8,hE,hK,hKB,hKE];have e1:(s*4294967296 % 18446744073709551616+a[n-1] % 18446744073709551616) % 18446744073709551616=s*4294967296+a[n-1]:=aw;have e2:d % 18446744073709551616=d:=aw;rw[e1,e2]
   repeat(refine And.intro aw ?_)
   refine cf (n-1) aw aw ?_;simp -dsimp only[go_sem,h0,h1,h6,h7,h8,hE,hK,hKB,hKE]
   repeat(refine And.intro aw ?_)
   have hq0:0<=(s*4294967296+a[n-1])/d:=Int.ediv_nonneg aw aw;have hq1:(s*4294967296+a[n-1])/d<4294967296:=Int.ediv_lt_of_lt_mul hd.1 aw;refine again (n-1) aw ?_;simp -dsimp only[go_sem,h0,h1,h6,h7,h8,hE,hK,hKB,hKE,e1,e2];have e3:(s*4294967296+a[n-1]).tdiv d=(s*4294967296+a[n-1])/d:=Int.tdiv_eq_ediv_of_nonneg aw;have e4:(s*4294967296+a[n-1]).tmod d=(s*4294967296+a[n-1]) % d:=Int.tmod_eq_emod_of_nonneg aw;have e5:val (a.drop (n-1))=d*(4294967296*val m)+(s*4294967296+a[n-1]):=by rw[hvd,<-hdm];grind
   have e6:((n:Int)-1).toNat=n-1:=aw;rw[e3,e4,Int.emod_eq_of_lt hq0 aw,Int.emod_eq_of_lt hq0 hq1,e6];refine⟨aw,ja aw,_,rfl,?_,l,(s*4294967296+a[n-1])/d::m,?_,hl',by simp at hlm ⊢;omega,Dig.cons.2 ⟨⟨hq0,hq1⟩,hD⟩,?_⟩
   ·rw[e5,Int.mul_add_emod_self_left]
   ·rw[List.append_assoc,List.singleton_append,kG hl']
   ·rw[e5,Int.mul_add_ediv_left _ _ aw];simp only[val];omega
  ·have:n=0:=aw;subst this;obtain rfl:l=[]:=List.eq_nil_of_length_eq_zero hl;simp only[List.drop_zero]at hs hv;exact⟨by rw[hs],m,rfl,by simpa using hlm,hD,hv⟩
 ·rintro e τ β ε π hK hKB hKE ⟨rfl,h7,m,hE,hlm,hD,hv⟩;have h6:τ 6 = .sl 11 1 a.length:=hK 6 aH;simp -dsimp only[go_sem,h6,h7,hE];obtain rfl:Q=m:=by rw[hQ];exact(iO hD hlm hv).symm
  rw[List.take_of_length_le (by simp[hlm]),<-hr];have hm0:=Int.emod_nonneg (val a) (b:=d) aw;have hm1:=Int.emod_lt_of_pos (val a) hd.1;rw[<-hr]at hm0 hm1;rw[Int.emod_eq_of_lt hm0 aw]
theorem On {l:List Int} (hd:Dig l) {i:Nat} (h:i<l.length):4294967296 ^ i*l[i]<=val l:=by
 have h1:=fO h;have h2:=bm (hd.take i);have h3:=bm (hd.drop (i+1));have h4:(0:Int)<=4294967296 ^ i*(4294967296*val (l.drop (i+1))):=Int.mul_nonneg (Int.le_of_lt (Int.pow_pos aH)) aw;rw[Int.mul_add]at h1;omega
theorem Om {l:List Int} (hd:Dig l) {i:Nat} (h:i<l.length) (hl:l.length=i+1):val l<(l[i]+1)*4294967296 ^ i:=by
 have h1:=fO h;have h2:=eA (hd.take i);rw[List.drop_of_length_le aw,List.length_take,Nat.min_eq_left aw]at *
 simp only[val]at h1;rw[h1]
 grind
theorem K8 {l:List Int} (hd:Dig l) {i:Nat} (h:i+1<l.length):(l[i+1]*4294967296+l[i])*4294967296 ^ i<=val l:=by
 have h1:=fO (l:=l) (i:=i) aw;have h2:=bm (hd.take i);rw[cd h]at h1;have h3:=bm (hd.drop (i+1+1));have h4:(0:Int)<=4294967296 ^ i*(4294967296*(4294967296*val (l.drop (i+1+1)))):=Int.mul_nonneg (Int.le_of_lt (Int.pow_pos aH)) aw
 grind
theorem JA {X low q p b c a:Int} (hq:q=X/low) (hl:0<low) (hb:b<=low*p) (hp:0<=p) (hq0:0<=q) (hc:0<=c) (ha:X*(p*c)<=a):q*c*b<=a:=by
 have h1:q*low<=X:=by rw[hq];exact Int.ediv_mul_le X aw
 have h2:q*c*b<=q*c*(low*p):=Int.mul_le_mul_of_nonneg_left hb (Int.mul_nonneg hq0 hc);have h3:q*low*(p*c)<=X*(p*c):=Int.mul_le_mul_of_nonneg_right h1 (Int.mul_nonneg hp hc);have h4:q*c*(low*p)=q*low*(p*c):=by grind
 omega
theorem aQ {P:Program} {f:FuncId} {args args' res:List IV} {K:List IV->Prop} (h:args=args') (hf:Fn P f args' res) (hK:K res):wFn P f args K ⟨⟩:=by
 subst h;exact aK hf hK
theorem ao {P:Program} {f:FuncId} {args args' res:List IV} {K:List IV->Prop} (hf:Fn P f args' res) (h:args=args') (hK:K res):wFn P f args K ⟨⟩:=aQ h hf hK
theorem NO {x y:Int} (hx:0<=x/\x<18446744073709551616) (hy:0<=y/\y<4294967296):(x % 18446744073709551616).tdiv ((y % 18446744073709551616+1) % 18446744073709551616) % 18446744073709551616=x/(y+1):=by
 have e1:x % 18446744073709551616=x:=aw;have e2:(y % 18446744073709551616+1) % 18446744073709551616=y+1:=aw;rw[e1,e2,Int.tdiv_eq_ediv_of_nonneg hx.1];have h1:x/(y+1)<=x:=Int.ediv_le_self _ hx.1;have h2:0<=x/(y+1):=Int.ediv_nonneg hx.1 aw;generalize x/(y+1)=z at *
 omega
theorem Rb (t u:Int):(t % 18446744073709551616*4294967296 % 18446744073709551616+u % 18446744073709551616) % 18446744073709551616=(t*4294967296+u) % 18446744073709551616:=aw
theorem Mk {n:Nat} {e:Int} (he:0<=e/\e<18446744073709551616):(List.replicate n [C.v (Value.int IntKind.u32 0)]++[[C.v (.int .u32 (e % 4294967296))],[C.v (.int .u32 (e/4294967296 % 4294967296))]]).take (n+2)=(List.replicate n 0++[e % 4294967296,e/4294967296]).map bG:=by
 have e1:e/4294967296 % 4294967296=e/4294967296:=aw;rw[e1,List.take_of_length_le au];simp[bG]
theorem Mj {n:Nat} {e:Int} (he:0<=e/\e<18446744073709551616):Dig (List.replicate n 0++[e % 4294967296,e/4294967296])/\val (List.replicate n 0++[e % 4294967296,e/4294967296])=e*4294967296 ^ n:=by
 refine⟨(Dig.replicate n).append (Dig.cons.2 ⟨aw,Dig.cons.2 ⟨aw,Dig.nil⟩⟩),?_⟩;rw[it,kN,List.length_replicate];simp only[val];have:=Int.emod_add_mul_ediv e 4294967296
 grind
theorem M2 (a b:Int) (hb:0<b) (hab:b<=a) (hla:(lb a).length<274877906944):∃ e:Int,1<=e/\e*b<=a/\Fn Tryz.prog 241 [iL (lb a),iL (lb b)] [iZ e]:=by
 have hA:=bU a;have hB:=bU b;have hva:=bD a;have hvb:=bD b;have hle:(lb b).length<=(lb a).length:=fI (Int.lt_of_le_of_lt aw (fX a));have hb1:0<(lb b).length:=Nat.pos_of_ne_zero fun e=>by have:=gV.1 e;omega
 have hbt:(lb b).length-1<(lb b).length:=aw;have hat:(lb a).length-1<(lb a).length:=aw;have t1:=hB.get hbt;have t2:=hA.get hat;have b1:=Om hB hbt aw;have a0:=xW (z:=a) aw hat;have b0:=xW (z:=b) aw hbt;by_cases hk:(lb a).length=(lb b).length
 ·have key:=On hA hat;refine⟨max 1 ((lb a)[(lb a).length-1]/((lb b)[(lb b).length-1]+1)),aw,?_,?_⟩
  ·by_cases h1:1<=(lb a)[(lb a).length-1]/((lb b)[(lb b).length-1]+1)
   ·have:=JA (X:=(lb a)[(lb a).length-1]) (low:=(lb b)[(lb b).length-1]+1) (q:=(lb a)[(lb a).length-1]/((lb b)[(lb b).length-1]+1)) (p:=4294967296 ^ ((lb b).length-1)) (b:=b) (c:=1) (a:=a) rfl aw aw
     (Int.le_of_lt (Int.pow_pos aH)) aw aw (by rw[Int.mul_one,Int.mul_comm,<-hk];omega)
    rw[Int.mul_one]at this;rwa [show max 1 ((lb a)[(lb a).length-1]/((lb b)[(lb b).length-1]+1))=(lb a)[(lb a).length-1]/((lb b)[(lb b).length-1]+1)from by omega]
   ·rw[show max 1 ((lb a)[(lb a).length-1]/((lb b)[(lb b).length-1]+1))=1 from by omega];omega
  ·have hq:(lb a)[(lb a).length-1]/((lb b)[(lb b).length-1]+1)<=(lb a)[(lb a).length-1]:=Int.ediv_le_self _ t2.1;have hq0:0<=(lb a)[(lb a).length-1]/((lb b)[(lb b).length-1]+1):=Int.ediv_nonneg t2.1 aw;refine aJ (fn:=Tryz.f241) ?_;simp -dsimp only[go_sem];refine ap 18 [] false true ?_;simp -dsimp only[go_sem]
   repeat(refine And.intro aw ?_)
   refine cf ((lb b).length-1) aw aw ?_;simp -dsimp only[go_sem];have ek:decide (((lb a).length:Int)-(lb b).length=0)=true:=aF aw;simp -dsimp only[go_sem,ek]
   repeat(refine And.intro aw ?_)
   refine cf ((lb a).length-1) aw aw ?_;simp -dsimp only[go_sem];have eq:=NO (x:=(lb a)[(lb a).length-1]) (y:=(lb b)[(lb b).length-1]) aw aw;rw[eq]
   repeat(refine And.intro aw ?_)
   rw[jQ _ aw aw];refine aK (yx _ aw) ?_;simp -dsimp only[go_sem];rfl
 ·have h2n:(lb a).length-2+1<(lb a).length:=aw;have ea:(lb a).length-1=(lb a).length-2+1:=aw;have key:=K8 hA h2n;have t3:=hA.get (i:=(lb a).length-2) aw;simp only[ea]at t2 a0;have hX:0<=(lb a)[(lb a).length-2+1]*4294967296+(lb a)[(lb a).length-2]:=aw;have hq0:0<=((lb a)[(lb a).length-2+1]*4294967296+(lb a)[(lb a).length-2])/((lb b)[(lb b).length-1]+1):=Int.ediv_nonneg hX aw;have hq:((lb a)[(lb a).length-2+1]*4294967296+(lb a)[(lb a).length-2])/((lb b)[(lb b).length-1]+1)<=(lb a)[(lb a).length-2+1]*4294967296+(lb a)[(lb a).length-2]:=Int.ediv_le_self _ hX;have hq1:1<=((lb a)[(lb a).length-2+1]*4294967296+(lb a)[(lb a).length-2])/((lb b)[(lb b).length-1]+1):=by
   refine(Int.le_ediv_iff_mul_le aw).2 ?_;omega
  have hpk:(1:Int)<=4294967296 ^ ((lb a).length-(lb b).length-1):=Int.pow_pos aH;refine⟨((lb a)[(lb a).length-2+1]*4294967296+(lb a)[(lb a).length-2])/((lb b)[(lb b).length-1]+1)*4294967296 ^ ((lb a).length-(lb b).length-1),?_,?_,?_⟩
  ·have:=Int.mul_le_mul_of_nonneg_right hq1 (a:=1) (c:=4294967296 ^ ((lb a).length-(lb b).length-1)) aw;omega
  ·refine JA (p:=4294967296 ^ ((lb b).length-1)) rfl aw aw (Int.le_of_lt (Int.pow_pos aH)) hq0 aw ?_;rw[<-Int.pow_add,show(lb b).length-1+((lb a).length-(lb b).length-1)=(lb a).length-2 from by omega];omega
  ·refine aJ (fn:=Tryz.f241) ?_;simp -dsimp only[go_sem];refine ap 18 [] false true ?_;simp -dsimp only[go_sem]
   repeat(refine And.intro aw ?_)
   refine cf ((lb b).length-1) aw aw ?_;simp -dsimp only[go_sem];have ek:decide (((lb a).length:Int)-(lb b).length=0)=false:=aG aw;simp -dsimp only[go_sem,ek];refine ap 17 [] false true ?_;simp -dsimp only[go_sem]
   repeat(refine And.intro aw ?_)
   refine cf ((lb a).length-2+1) aw aw ?_;simp -dsimp only[go_sem]
   repeat(refine And.intro aw ?_)
   refine cf ((lb a).length-2) aw aw ?_;simp -dsimp only[go_sem];rw[Rb,NO ⟨hX,aw⟩ t1,show((((lb a).length:Int)-(lb b).length-1).toNat)=(lb a).length-(lb b).length-1 from by omega];simp only[List.length_replicate,true_and]
   repeat(refine And.intro aw ?_)
   generalize hE:((lb a)[(lb a).length-2+1]*4294967296+(lb a)[(lb a).length-2])/((lb b)[(lb b).length-1]+1)=E at *
   obtain⟨r1,r2⟩:=Mj (n:=(lb a).length-(lb b).length-1) (e:=E) aw;rw[Mk aw];refine aK (dJ _ false r1 ar) ?_;rw[r2];simp -dsimp only[go_sem];rfl
theorem D7 {z:Int} {k:Nat} (h0:0<=z) (h:z<4294967296 ^ k):(lb z).length<=k:=fI aw
theorem xX (z:Int):lb (z.natAbs:Int)=lb z:=by simp[lb]
theorem BR {s t:Int} (hs:1<=s) (ht:1<=t/\t<4294967296) (h:t*s<2147483648):2*s<4294967296/\t*(2*s)<4294967296:=by
 have h1:1*s<=t*s:=Int.mul_le_mul_of_nonneg_right ht.1 aw;have h2:t*(2*s)=2*(t*s):=by grind
 rw[Int.one_mul]at h1;rw[h2];omega
theorem eZ0:eZ 0=[.v (.bool false),.lst []]:=by
 have h:lb 0=[]:=List.eq_nil_of_length_eq_zero (gV.2 rfl);rw[NR,h];rfl
theorem OP {A s q B r:Int} (h:A*s=q*(B*s)+r) (hr:0<=r) (hs:1<=s) (hB:1<=B) (hq:0<=q):q<=A:=by
 have h1:q*B*s<=A*s:=by rw[Int.mul_assoc];omega
 have h2:=Int.le_of_mul_le_mul_right h1 aw;have h3:q*1<=q*B:=Int.mul_le_mul_of_nonneg_left hB hq;omega
theorem H8 {A s q B r:Int} (h:A*s=q*(B*s)+r) (hq:0<=q) (hB:0<=B*s):r<=A*s:=by
 have:=Int.mul_nonneg hq hB;omega
theorem FV {X D q r e:Int} (h:X=q*D+r):X=(q+e)*D+(r-e*D):=by grind
theorem FX {A s q B r:Int} (h:A*s=q*(B*s)+r) (hr:0<=r) (hs:1<=s) (hB:1<=B) (hlt:r<B*s):A/B=q/\A % B=r/s/\r % s=0:=by
 have h1:r=(A-q*B)*s:=by grind
 have h2:r/s=A-q*B:=by rw[h1];exact Int.mul_ediv_cancel _ aw
 have h3:0<=A-q*B:=by rw[<-h2];exact Int.ediv_nonneg hr aw
 have h4:A-q*B<B:=by rw[h1]at hlt;exact Int.lt_of_mul_lt_mul_right hlt aw
 have h5:A=(A-q*B)+q*B:=aw;refine⟨?_,?_,?_⟩
 ·rw[h5,Int.add_mul_ediv_right _ _ aw,Int.ediv_eq_zero_of_lt h3 h4,Int.zero_add]
 ·rw[h2]
  conv=>lhs;rw[h5,Int.add_mul_emod_self_right]
  exact Int.emod_eq_of_lt h3 h4
 ·rw[h1];exact Int.mul_emod_left _ _
theorem mv {a b:Int} (h:a.natAbs<=b.natAbs):(lb a).length<=(lb b).length:=fI (Int.lt_of_le_of_lt aw (fX b))
theorem Dh (a b:Int) (hb:b≠0) (hla:(lb a).length<68719476736) (hlb:(lb b).length<68719476736):Fn Tryz.prog 221 [iL (lb a),iL (lb b)] [iZ ((a.natAbs:Int)/b.natAbs),iZ ((a.natAbs:Int) % b.natAbs)]:=by
 have hA:=bU a;have hB:=bU b;have hva:=bD a;have hvb:=bD b;have hb0:0<(lb b).length:=Nat.pos_of_ne_zero fun e=>hb (gV.1 e);refine aJ (fn:=Tryz.f221) ?_;by_cases h1:(lb b).length=1
 ·obtain⟨d,e1,d0,d1,ed⟩:=I4 h1;have ha2:=fX a;have hq:val (lb a)/d=(a.natAbs:Int)/b.natAbs:=by rw[hva,ed]
  have hr:val (lb a) % d=(a.natAbs:Int) % b.natAbs:=by rw[hva,ed]
  have hdv:val (digs (lb a).length (val (lb a)/d))=(a.natAbs:Int)/b.natAbs:=by
   rw[hq];exact f0 (Int.ediv_nonneg aw aw) (Int.lt_of_le_of_lt (Int.ediv_le_self _ aw) ha2)
  have hm0:=Int.emod_nonneg (a.natAbs:Int) (b:=b.natAbs) aw;have hm1:=Int.emod_lt_of_pos (a.natAbs:Int) (b:=b.natAbs) aw;simp -dsimp only[go_sem,e1];refine bi (fun _=>?_) (fun h=>absurd rfl h);simp -dsimp only[go_sem,e1]
  repeat(refine And.intro aw ?_)
  refine cf 0 rfl au ?_;simp -dsimp only[go_sem];refine aK (w6 (lb a) d _ _ hA ⟨aw,aw⟩ aw rfl rfl) ?_;simp -dsimp only[go_sem];refine aQ (args':=[iL (digs (lb a).length (val (lb a)/d)),iB false]) rfl (dJ _ false (dw _ _) (by rw[cP];omega)) ?_;simp -dsimp only[go_sem];refine aQ (args':=[iL [val (lb a) % d],iB false]) rfl (dJ _ false (Dig.cons.2 ⟨aw,Dig.nil⟩) au) ?_;simp -dsimp only[go_sem];rw[hdv,show val [val (lb a) % d]=(a.natAbs:Int) % b.natAbs from by simp only[val];omega];rfl
 ·have hd:decide (((lb b).length:Int)=1)=false:=aG aw;have hbt:(lb b).length-1<(lb b).length:=aw;have t1:=hB.get hbt;have b0:=xW hb hbt;simp -dsimp only[go_sem,hd];refine a8 [(8,8),(32,44)] [] [] (fun m τ β ε=>∃ s:Int,m=(4294967296-s).toNat/\1<=s/\s<4294967296/\τ 8=aU s/\(lb b)[(lb b).length-1]*s<4294967296)
   (fun e τ β ε=>e = .exit 0/\∃ s:Int,1<=s/\s<4294967296/\τ 8=aU s) 4294967295 ?_ ?_ ?_
  ·exact⟨1,aH,aw,aw,rfl,aw⟩
  ·rintro m τ β ε π hK hKB hKE ⟨s,hm,s0,s1,h8,hs⟩;have g1:τ 1=aL (lb b):=hK 1 aH;simp -dsimp only[go_sem,g1,h8]
   repeat(refine And.intro aw ?_)
   refine cf ((lb b).length-1) aw aw ?_;simp -dsimp only[go_sem,g1,h8];have em:(lb b)[(lb b).length-1] % 18446744073709551616*(s % 18446744073709551616) % 18446744073709551616=(lb b)[(lb b).length-1]*s:=by
    rw[Int.emod_eq_of_lt t1.1 aw,Int.emod_eq_of_lt (a:=s) aw aw,Int.emod_eq_of_lt (Int.mul_nonneg t1.1 aw) aw]
   rw[em];refine bi (fun h=>?_) (fun h=>?_)<;>simp -dsimp only[go_sem,g1,h8]
   ·obtain⟨q1,q2⟩:=BR s0 aw h;refine again (4294967296-2*s).toNat aw ⟨(aA hK),hKB,hKE,2*s,rfl,aw,aw,?_,q2⟩;simp -dsimp only[go_sem];exact Rs aw
   ·exact⟨(aA hK),hKB,hKE,s,s0,s1,rfl⟩
  ·rintro e τ β ε π hK hKB hKE ⟨rfl,s,s0,s1,h8⟩;have g0:τ 0=aL (lb a):=hK 0 aH;have g1:τ 1=aL (lb b):=hK 1 aH;have z9:β 9=⟨0,[]⟩:=hKB 9 aH;have z10:β 10=⟨0,[]⟩:=hKB 10 aH;have z11:β 11=⟨0,[]⟩:=hKB 11 aH;have z12:β 12=⟨0,[]⟩:=hKB 12 aH;have hs:Fn Tryz.prog 162 [iL [s],iB false] [iZ s]:=by
    have:=dJ [s] false (Dig.cons.2 ⟨aw,Dig.nil⟩) au;rw[show val [s]=s from by simp only[val];omega]at this;exact this
   simp -dsimp only[go_sem,g0,g1,h8,z9,z10,z11,z12];refine aK hs ?_;simp -dsimp only[go_sem,g0,g1,h8,z9,z10,z11,z12];refine bB av 8 12 [10,11,12] true [.tmp 10,.tmp 11] none av av av av aE ?_;simp -dsimp only[go_sem,g0,g1,h8,z9,z10,z11,z12];refine aK (dJ (lb a) false hA aw) ?_;simp -dsimp only[go_sem,g0,g1,h8,z9,z10,z11,z12];rw[hva];have hsl:(lb s).length<=1:=D7 aw aw;refine aQ (args':=[iZ a.natAbs,iZ s]) rfl (iS _ _ (by rw[xX];omega) aw) ?_;simp -dsimp only[go_sem,g0,g1,h8,z9,z10,z11,z12];refine aK (dJ (lb b) false hB aw) ?_;simp -dsimp only[go_sem,g0,g1,h8,z9,z10,z11,z12];rw[hvb];refine aQ (args':=[iZ b.natAbs,iZ s]) rfl (iS _ _ (by rw[xX];omega) aw) ?_;simp -dsimp only[go_sem,g0,g1,h8,z9,z10,z11,z12];have hAs:=fh a.natAbs s;have hBs:=fh b.natAbs s;rw[xX]at hAs hBs;have hD0:0<(b.natAbs:Int)*s:=Int.mul_pos aw aw;have hA0:0<=(a.natAbs:Int)*s:=Int.mul_nonneg aw aw;refine a8 [(13,13),(57,75)] [(10,10),(12,13)] [] (fun m τ β ε=>∃ q r:Int,m=r.natAbs/\0<=q/\0<=r/\(a.natAbs:Int)*s=q*(b.natAbs*s)+r/\β 10=⟨1,eZ r⟩/\β 12=⟨1,eZ q⟩)
    (fun e τ β ε=>e = .exit 2/\∃ q r:Int,0<=q/\0<=r/\(a.natAbs:Int)*s=q*(b.natAbs*s)+r/\β 10=⟨1,eZ r⟩/\β 12=⟨1,eZ q⟩/\r<b.natAbs*s) ((a.natAbs:Int)*s).natAbs ?_ ?_ ?_
   ·exact⟨0,_,rfl,aw,hA0,aw,by simp -dsimp only[go_sem,z10],by simp -dsimp only[go_sem,z12,eZ0]⟩
   ·rintro m τ' β' ε' π' hK' hKB' hKE' ⟨q,r,hm,hq,hr,hv,hb10,hb12⟩;have k10:τ' 10 = .bp 10 1 0:=hK' 10 aH;have k11:τ' 11 = .bp 11 1 0:=hK' 11 aH;have k12:τ' 12 = .bp 12 1 0:=hK' 12 aH;have hb11:β' 11=⟨1,eZ (b.natAbs*s)⟩:=hKB' 11 aH;have hrA:=H8 hv hq aw;have lr:(lb r).length<=(lb ((a.natAbs:Int)*s)).length:=mv aw;have hqA:=OP hv hr s0 aw hq;have lq:(lb q).length<=(lb a).length:=mv aw;simp -dsimp only[go_sem,k10,k11,k12,hb10,hb11,hb12];refine aK (s6 r _ aw) ?_;by_cases hlt:(r.natAbs:Int)<((b.natAbs:Int)*s).natAbs
    ·simp -dsimp only[go_sem,k10,k11,k12,hb10,hb11,hb12,hlt];exact⟨(aA hK'),(aA hKB'),(aA hKE'),q,r,hq,hr,hv,rfl,rfl,aw⟩
    ·obtain⟨e,e1,e2,e3⟩:=M2 r (b.natAbs*s) hD0 aw aw;simp -dsimp only[go_sem,k10,k11,k12,hb10,hb11,hb12,hlt];refine aK e3 ?_;simp -dsimp only[go_sem,k10,k11,k12,hb10,hb11,hb12,hlt];have le:(lb e).length<=(lb r).length:=mv (by
      have:e*1<=e*((b.natAbs:Int)*s):=Int.mul_le_mul_of_nonneg_left aw aw;omega)
     have hed:0<=e*((b.natAbs:Int)*s):=Int.mul_nonneg aw aw;have led:=fh e (b.natAbs*s);refine ao (tt q e aw aw) rfl ?_;simp -dsimp only[go_sem,k10,k11,k12,hb10,hb11,hb12,hlt];refine ap 5 [] false true ?_;simp -dsimp only[go_sem,k10,k11,k12,hb10,hb11,hb12,hlt];refine aQ (args':=[iZ e,iZ (b.natAbs*s)]) rfl (iS _ _ aw aw) ?_;simp -dsimp only[go_sem,k10,k11,k12,hb10,hb11,hb12,hlt];refine aQ (args':=[iZ r,iZ (e*(b.natAbs*s))]) rfl (EJ _ _ aw aw) ?_;simp -dsimp only[go_sem,k10,k11,k12,hb10,hb11,hb12,hlt];have hp:0<e*((b.natAbs:Int)*s):=Int.mul_pos aw hD0;exact again (r-e*(b.natAbs*s)).natAbs aw ⟨(aA hK'),(aA hKB'),(aA hKE'),q+e,r-e*(b.natAbs*s),rfl,aw,aw,FV hv,rfl,rfl⟩
   ·rintro e τ' β' ε' π' hK' hKB' hKE' ⟨rfl,q,r,hq,hr,hv,hb10,hb12,hlt⟩;have k4:τ' 4 = .bp 4 1 0:=(hK' 4 aH).trans (hK 4 aH);have k5:τ' 5 = .bp 5 1 0:=(hK' 5 aH).trans (hK 5 aH);have hb4:β' 4=⟨1,lL false []⟩:=(hKB' 4 aH).trans (hKB 4 aH);have hb5:β' 5=⟨1,lL false []⟩:=(hKB' 5 aH).trans (hKB 5 aH);have k8:τ' 8=aU s:=(hK' 8 aH).trans h8;have k10:τ' 10 = .bp 10 1 0:=hK' 10 aH;have k12:τ' 12 = .bp 12 1 0:=hK' 12 aH;have hrA:=H8 hv hq aw;have lr:(lb r).length<=(lb ((a.natAbs:Int)*s)).length:=mv aw;obtain⟨f1,f2,f3⟩:=FX hv hr s0 aw hlt;simp -dsimp only[go_sem,k4,k5,k8,k10,k12,hb4,hb5,hb10,hb12];have hvr:=bD r;refine aK (w6 (lb r) s _ _ (bU r) ⟨aw,s1⟩ aw rfl rfl) ?_;simp -dsimp only[go_sem,k4,k5,k8,k10,k12,hb4,hb5,hb10,hb12];refine ap 3 [] false true ?_;simp -dsimp only[go_sem,k4,k5,k8,k10,k12,hb4,hb5,hb10,hb12];have hr':val (lb r)/s=r/s:=by rw[hvr];congr 1;omega
    have hdv:val (digs (lb r).length (val (lb r)/s))=r/s:=by
     rw[hr'];refine f0 (Int.ediv_nonneg hr aw) (Int.lt_of_le_of_lt (Int.ediv_le_self _ hr) ?_);have:=fX r;omega
    refine aQ (args':=[iL (digs (lb r).length (val (lb r)/s)),iB false]) rfl (dJ _ false (dw _ _) (by rw[cP];omega)) ?_;simp -dsimp only[go_sem,k4,k5,k8,k10,k12,hb4,hb5,hb10,hb12];rw[f1,f2,hdv];rfl
theorem wu (a:Int) (hla:(lb a).length<1099511627776):Fn Tryz.prog 162 [iL (lb a),iB (decide (a<0))] [iZ a]:=by
 have:=dJ (lb a) (decide (a<0)) (bU a) hla;rw[bD]at this;rwa [show(if decide (a<0)then -(a.natAbs:Int)else a.natAbs)=a from by split<;>rename_i h<;>simp only[decide_eq_true_eq]at h<;>omega]at this
theorem zX (a:Int) (hla:(lb a).length<1099511627776):Fn Tryz.prog 162 [iL (lb a),iB false] [iZ a.natAbs]:=by
 have:=dJ (lb a) false (bU a) hla;rwa [bD]at this
theorem zn (r:Int) (h:0<=r):decide (0<r.sign)=decide (r≠0):=by
 by_cases h0:r=0
 ·subst h0;simp
 ·rw[Int.sign_eq_one_of_pos aw];simp[h0]
theorem oj (r:Int):decide (r.sign=0)=decide (r=0):=by simp[Int.sign_eq_zero_iff_zero]
theorem ko (a b:Int) (hb:b≠0) (hla:(lb a).length<68719476736) (hlb:(lb b).length<68719476736):Fn Tryz.prog 200 [iZ a,iZ b] [iZ (a/b),iZ (a % b),iN 0]:=by
 have hf:=Dh a b hb hla hlb;have hb0:0<(b.natAbs:Int):=aw;have hdm:=Int.emod_add_mul_ediv (a.natAbs:Int) b.natAbs;have hy0:=Int.emod_nonneg (a.natAbs:Int) (b:=b.natAbs) aw;have hy1:=Int.emod_lt_of_pos (a.natAbs:Int) hb0;have hq0:=Int.ediv_nonneg (a:=(a.natAbs:Int)) (b:=b.natAbs) aw aw;have hq1:(a.natAbs:Int)/b.natAbs<=a.natAbs:=Int.ediv_le_self _ aw;obtain⟨q,hq⟩:∃ q,q=(a.natAbs:Int)/b.natAbs:=⟨_,rfl⟩;obtain⟨r,hr⟩:∃ r,r=(a.natAbs:Int) % b.natAbs:=⟨_,rfl⟩;rw[<-hq]at hdm hq0 hq1 hf;rw[<-hr]at hdm hy0 hy1 hf;have hql:(lb q).length<=(lb a).length:=mv aw;have hrl:(lb r).length<=(lb b).length:=mv aw;have fin:∀{u v:Int},v+b*u=a->0<=v->v<b.natAbs->some [iZ u,iZ v,iN 0]=some [iZ (a/b),iZ (a % b),iN 0]:=fun h1 h2 h3=>by
  obtain⟨e1,e2⟩:=Es hb h1 h2 h3;rw[e1,e2]
 have l1:(lb 1).length<=1:=D7 aw aw;have hz:decide (b.sign=0)=false:=by rw[oj];exact aG hb
 refine aJ (fn:=Tryz.f200) ?_;simp -dsimp only[go_sem];refine ap 10 [] false true ?_;simp -dsimp only[go_sem];refine aK (wu a aw) ?_;simp -dsimp only[go_sem];refine aK (wu b aw) ?_;simp -dsimp only[go_sem];refine ao (km b) rfl ?_;simp -dsimp only[go_sem,hz];refine aK hf ?_;by_cases ha:a<0
 ·rw[show(a.natAbs:Int) = -a from by omega]at hdm;simp -dsimp only[go_sem,ha];refine ao (km r) rfl ?_;by_cases hr0:r=0
  ·have e0:decide (¬ r=0)=false:=aG (fun h=>h hr0);by_cases hbn:b<0<;>simp -dsimp only[go_sem,ha,hbn,zn r hy0,e0]
   ·refine bB av 1 2 [] true [.tmp 4] (some (.tmp 8)) av av av av aE ?_;simp -dsimp only[go_sem,ha,hbn];refine fin ?_ aw aw;rw[show(b.natAbs:Int) = -b from by omega]at hdm
    grind
   ·refine aQ (args':=[iZ (q)]) rfl (oG _ aw) ?_;simp -dsimp only[go_sem,ha,hbn];refine bB av 1 2 [] true [.tmp 4] (some (.tmp 8)) av av av av aE ?_;simp -dsimp only[go_sem,ha,hbn];refine fin ?_ aw aw;rw[show(b.natAbs:Int)=b from by omega]at hdm
    grind
  ·have e0:decide (¬ r=0)=true:=aF hr0;have hqp:(lb (q+1)).length<=(lb a).length+1+1:=Cs aw aw;simp -dsimp only[go_sem,ha,zn r hy0,e0];refine ap 3 [] false true ?_;simp -dsimp only[go_sem,ha];refine aK (yx 1 aH) ?_;simp -dsimp only[go_sem,ha];refine ao (tt q 1 aw aw) rfl ?_;simp -dsimp only[go_sem,ha];refine ap 5 [] false true ?_;simp -dsimp only[go_sem,ha];refine ao (zX b aw) rfl ?_;simp -dsimp only[go_sem,ha];refine aQ (args':=[iZ b.natAbs,iZ r]) rfl (EJ _ _ (by rw[xX];omega) aw) ?_;by_cases hbn:b<0<;>simp -dsimp only[go_sem,ha,hbn]
   ·refine bB av 1 2 [] true [.tmp 4] (some (.tmp 8)) av av av av aE ?_;simp -dsimp only[go_sem,ha,hbn];refine fin ?_ aw aw;rw[show(b.natAbs:Int) = -b from by omega]at hdm ⊢
    grind
   ·refine aQ (args':=[iZ (q+1)]) rfl (oG _ aw) ?_;simp -dsimp only[go_sem,ha,hbn];refine bB av 1 2 [] true [.tmp 4] (some (.tmp 8)) av av av av aE ?_;simp -dsimp only[go_sem,ha,hbn];refine fin ?_ aw aw;rw[show(b.natAbs:Int)=b from by omega]at hdm ⊢
    grind
 ·rw[show(a.natAbs:Int)=a from by omega]at hdm;by_cases hbn:b<0<;>simp -dsimp only[go_sem,ha,hbn]
  ·refine aQ (args':=[iZ (q)]) rfl (oG _ aw) ?_;simp -dsimp only[go_sem,ha,hbn];refine bB av 1 2 [] true [.tmp 4] (some (.tmp 8)) av av av av aE ?_;simp -dsimp only[go_sem,ha,hbn];refine fin ?_ aw aw;rw[show(b.natAbs:Int) = -b from by omega]at hdm
   grind
  ·refine bB av 1 2 [] true [.tmp 4] (some (.tmp 8)) av av av av aE ?_;simp -dsimp only[go_sem,ha,hbn];refine fin ?_ aw aw;rw[show(b.natAbs:Int)=b from by omega]at hdm
   grind
theorem Jm (x y:Int):Int.gcd y (x % y)=Int.gcd y x:=by
 conv=>rhs;rw[<-Int.emod_add_mul_ediv x y]
 simp
theorem EP (a b:Int) (hla:(lb a).length<68719476736) (hlb:(lb b).length<68719476736):Fn Tryz.prog 165 [iZ a,iZ b] [iZ (Int.gcd a b)]:=by
 refine aJ (fn:=Tryz.f165) ?_;simp -dsimp only[go_sem];refine a8 [(5,19)] [(2,3),(5,6)] [] (fun m τ β _=>∃ x y:Int,m=y.natAbs/\β 2=⟨1,eZ x⟩/\β 3=⟨1,eZ y⟩/\Int.gcd x y=Int.gcd a b/\(lb x).length<68719476736/\(lb y).length<68719476736)
  (fun e τ β _=>e = .exit 0/\∃ x:Int,β 2=⟨1,eZ x⟩/\x.natAbs=Int.gcd a b/\(lb x).length<68719476736) b.natAbs ?_ ?_ ?_
 ·exact⟨a,b,rfl,rfl,rfl,rfl,hla,hlb⟩
 ·rintro m τ β ε π hK hKB hKE ⟨x,y,hm,h2,h3,hg,hx,hy⟩;have k2:τ 2 = .bp 2 1 0:=hK 2 aH;have k3:τ 3 = .bp 3 1 0:=hK 3 aH;simp -dsimp only[go_sem,k2,k3,h2,h3];refine ao (km y) rfl ?_;simp -dsimp only[go_sem,k2,k3,h2,h3,oj];by_cases hy0:y=0
  ·simp -dsimp only[go_sem,hy0,k2,k3,h2,h3];subst hy0;exact⟨(aA hK),hKB,hKE,x,rfl,by rw[<-hg,Int.gcd_zero_right],hx⟩
  ·simp -dsimp only[go_sem,hy0,k2,k3,h2,h3];refine ao (ko x y hy0 hx hy) rfl ?_;simp -dsimp only[go_sem,k2,k3,h2,h3];refine bB av 1 2 [] true [.tmp 2] (some (.tmp 6)) av av av av aE ?_;simp -dsimp only[go_sem,k2,k3,h2,h3];have hm0:=Int.emod_nonneg x hy0;have hm1:=Int.emod_lt x hy0;refine again (x % y).natAbs aw ⟨(aA hK),(aA hKB),hKE,y,x % y,rfl,rfl,rfl,?_,hy,?_⟩
   ·rw[<-hg,Int.gcd_comm x y];exact Jm x y
   ·exact Nat.lt_of_le_of_lt (mv aw) hy
 ·rintro e τ β ε π hK hKB hKE ⟨rfl,x,h2,hg,hx⟩;have k2:τ 2 = .bp 2 1 0:=hK 2 aH;have k4:τ 4 = .bp 4 1 0:=hK 4 aH;have hb4:β 4=⟨1,lL false []⟩:=hKB 4 aH;simp -dsimp only[go_sem,k2,k4,h2,hb4];refine ao (zX x aw) rfl ?_;simp -dsimp only[go_sem,k2,k4,h2,hb4];rw[hg];rfl
theorem Ov:tinfo Tryz.prog 186=some ⟨false,1,24,some [C.lst []],some 92,none,[]⟩:=av
theorem Ou:tinfo Tryz.prog 189=some ⟨false,1,24,some [C.lst []],some 3,none,[]⟩:=av
attribute [go_sem] Ov Ou
def eQ (q:Rat):List C:=eZ q.num++eZ q.den
theorem Rg (q:Rat):eQ q=[.v (.bool (decide (q.num<0))),.lst ((lb q.num).map bG),.v (.bool (decide ((q.den:Int)<0))),.lst ((lb q.den).map bG)]:=(rfl)
attribute [go_sem] Rg
abbrev iQ (q:Rat):IV := .g (eQ q)
def QB (k:Nat) (q:Rat):Prop:=(lb q.num).length<=k/\(lb q.den).length<=k
theorem iC (n d:Int) (hd:d≠0):(Rat.divInt n d).num=(if d<0 then -n else n)/(Int.gcd n d:Int):=by
 rw[Rat.num_divInt,Int.gcd_comm];split
 ·rw[Int.sign_eq_neg_one_of_neg (by assumption)];congr 1;omega
 ·rw[Int.sign_eq_one_of_pos aw];congr 1;omega
theorem iD (n d:Int) (hd:d≠0):((Rat.divInt n d).den:Int)=(d.natAbs:Int)/(Int.gcd n d:Int):=by
 rw[Rat.den_divInt,if_neg hd,Int.gcd_comm];rfl
theorem sZ (d:Int):decide (d.sign<0)=decide (d<0):=by
 rw[decide_eq_decide];exact Int.sign_neg_iff
theorem rA (n d:Int) (hd:d≠0) (hn:(lb n).length<68719476736) (hd':(lb d).length<68719476736):Fn Tryz.prog 184 [iZ n,iZ d] [iQ (Rat.divInt n d)]:=by
 have key:∀{u v:Int},u=(Rat.divInt n d).num->v=(Rat.divInt n d).den->some [IV.g (eZ u++eZ v)]=some [iQ (Rat.divInt n d)]:=fun h1 h2=>by rw[h1,h2];rfl
 refine aJ (fn:=Tryz.f184) ?_;simp -dsimp only[go_sem];refine ao (vg d) rfl ?_;have hg0:(Int.gcd n d:Int)≠0:=by
  intro h;have:=Int.gcd_eq_zero_iff.1 (Int.ofNat.inj h);exact hd this.2
 have hgl:(lb (Int.gcd n d:Int)).length<=(lb d).length:=fI (by
  have h1:=fX d;have h2:Int.gcd n d<=d.natAbs:=Nat.le_of_dvd aw (Int.gcd_dvd_natAbs_right n d);omega)
 have l1:(lb 1).length<=1:=D7 aw aw;by_cases hs:d<0
 ·have es:decide (d.sign<0)=true:=by rw[sZ];exact aF hs
  simp -dsimp only[go_sem,es];refine ap 4 [] false true ?_;simp -dsimp only[go_sem];refine ao (qH n) rfl ?_;simp -dsimp only[go_sem];refine ao (qH d) rfl ?_;simp -dsimp only[go_sem];refine ao (KB (-n) (-d) (by rw[kU];omega) (by rw[kU];omega)) rfl ?_;simp -dsimp only[go_sem];refine ap 4 [] false true ?_;simp -dsimp only[go_sem];refine aK (vw 1 aH) ?_;simp -dsimp only[go_sem];rw[Int.neg_gcd,Int.gcd_neg];generalize hg:(Int.gcd n d:Int)=g at *
  refine ao (Dr g 1 aw aw) rfl ?_;simp -dsimp only[go_sem];by_cases h1:g=1
  ·have e0:decide (fv g 1=0)=true:=by rw[h1];decide
   simp -dsimp only[go_sem,e0];refine key ?_ ?_
   ·rw[iC n d hd,hg,h1,if_pos hs,Int.ediv_one]
   ·rw[iD n d hd,hg,h1,Int.ediv_one];omega
  ·have e0:decide (fv g 1=0)=false:=aG (fun h=>h1 (dG.1 h));simp -dsimp only[go_sem,e0];refine ao (oK (-n) g hg0 (by rw[kU];omega) aw) rfl ?_;simp -dsimp only[go_sem,e0];refine ao (oK (-d) g hg0 (by rw[kU];omega) aw) rfl ?_;simp -dsimp only[go_sem,e0];refine key ?_ ?_
   ·rw[iC n d hd,hg,if_pos hs]
   ·rw[iD n d hd,hg];congr 1;omega
 ·have es:decide (d.sign<0)=false:=by rw[sZ];exact aG hs
  simp -dsimp only[go_sem,es];refine ao (KB (n) (d) aw aw) rfl ?_;simp -dsimp only[go_sem];refine ap 4 [] false true ?_;simp -dsimp only[go_sem];refine aK (vw 1 aH) ?_;simp -dsimp only[go_sem];generalize hg:(Int.gcd n d:Int)=g at *
  refine ao (Dr g 1 aw aw) rfl ?_;simp -dsimp only[go_sem];by_cases h1:g=1
  ·have e0:decide (fv g 1=0)=true:=by rw[h1];decide
   simp -dsimp only[go_sem,e0];refine key ?_ ?_
   ·rw[iC n d hd,hg,h1,if_neg hs,Int.ediv_one]
   ·rw[iD n d hd,hg,h1,Int.ediv_one];omega
  ·have e0:decide (fv g 1=0)=false:=aG (fun h=>h1 (dG.1 h));simp -dsimp only[go_sem,e0];refine ao (oK (n) g hg0 aw aw) rfl ?_;simp -dsimp only[go_sem,e0];refine ao (oK (d) g hg0 aw aw) rfl ?_;simp -dsimp only[go_sem,e0];refine key ?_ ?_
   ·rw[iC n d hd,hg,if_neg hs]
   ·rw[iD n d hd,hg];congr 1;omega
theorem gM (a b:Int) (hla:(lb a).length<34359738368) (hlb:(lb b).length<34359738368):Fn Tryz.prog 186 [.c (.lst [eZ a,eZ b])] [iZ (a*b)]:=by
 have l1:(lb 1).length<=1:=D7 aw aw;refine aJ (fn:=Tryz.f186) ?_;simp -dsimp only[go_sem];refine aK (vw 1 aH) ?_;simp -dsimp only[go_sem];refine a8 [(5,5),(9,16)] [(3,3),(5,5)] [] (fun m τ β _=>∃ i:Nat,m=2-i/\i<=2/\τ 9=aI i/\β 3=⟨1,eZ (if i=0 then 1 else if i=1 then a else a*b)⟩)
  (fun e τ β _=>e = .exit 0/\β 3=⟨1,eZ (a*b)⟩) 2 ?_ ?_ ?_
 ·exact⟨0,rfl,aw,rfl,rfl⟩
 ·rintro m τ β ε π hK hKB hKE ⟨i,hm,hi,h9,h3⟩;have k3:τ 3 = .bp 3 1 0:=hK 3 aH;have k7:τ 7 = .i (.c (.lst ([a,b].map eZ))):=hK 7 aH;have k8:τ 8=aI 2:=hK 8 aH;obtain rfl|rfl|rfl:i=0\/i=1\/i=2:=aw
  ·replace h9:τ 9=aI 0:=h9
   replace h3:β 3=⟨1,eZ (1)⟩:=h3
   have hd:decide ((0:Int)<2)=true:=rfl;simp -dsimp only[go_sem,k3,k7,k8,h9,h3,hd]
   repeat(refine And.intro aw ?_)
   refine cf 0 rfl au ?_;simp -dsimp only[go_sem,k3,k7,k8,h9,h3,List.getElem_cons_zero,List.getElem_cons_succ];refine ao (Kq (1) a aw aw) rfl ?_;simp -dsimp only[go_sem,k3,k7,k8,h9,h3]
   repeat(refine And.intro aw ?_)
   refine again 1 aw ⟨(aA hK),(aA hKB),hKE,1,rfl,aw,rfl,?_⟩;simp -dsimp only[go_sem,Int.one_mul]
  ·replace h9:τ 9=aI 1:=h9
   replace h3:β 3=⟨1,eZ (a)⟩:=h3
   have hd:decide ((1:Int)<2)=true:=rfl;simp -dsimp only[go_sem,k3,k7,k8,h9,h3,hd]
   repeat(refine And.intro aw ?_)
   refine cf 1 rfl au ?_;simp -dsimp only[go_sem,k3,k7,k8,h9,h3,List.getElem_cons_zero,List.getElem_cons_succ];refine ao (Kq (a) b aw aw) rfl ?_;simp -dsimp only[go_sem,k3,k7,k8,h9,h3]
   repeat(refine And.intro aw ?_)
   refine again 0 aw ⟨(aA hK),(aA hKB),hKE,2,rfl,aw,rfl,?_⟩;simp -dsimp only[go_sem,Int.one_mul]
  ·replace h9:τ 9=aI 2:=h9
   replace h3:β 3=⟨1,eZ (a*b)⟩:=h3
   have hd:decide ((2:Int)<2)=false:=rfl;simp -dsimp only[go_sem,k3,k7,k8,h9,h3,hd];exact⟨(aA hK),hKB,hKE⟩
 ·rintro e τ β ε π hK hKB hKE ⟨rfl,h3⟩;have k2:τ 2 = .bp 2 1 0:=hK 2 aH;have k3:τ 3 = .bp 3 1 0:=hK 3 aH;have hb2:β 2=⟨1,lL false []⟩:=hKB 2 aH;simp -dsimp only[go_sem,k2,k3,h3,hb2];rfl
theorem PX (n d:Int) (hd:d≠0) (hn:(lb n).length<68719476736) (hd':(lb d).length<68719476736):Fn Tryz.prog 196 [iZ n,iZ d] [iQ (Rat.divInt n d),iN 0]:=by
 have e0:decide (d.sign=0)=false:=by rw[oj];exact aG hd
 refine aJ (fn:=Tryz.f196) ?_;simp -dsimp only[go_sem];refine ao (vg d) rfl ?_;simp -dsimp only[go_sem,e0];refine ao (rA n d hd hn hd') rfl ?_;simp -dsimp only[go_sem];rfl
theorem qE (q:Rat):Fn Tryz.prog 150 [iQ q] [iN q.num.sign]:=by
 refine aJ (fn:=Tryz.f150) ?_;simp -dsimp only[go_sem,eQ];refine ao (vg q.num) rfl ?_;simp -dsimp only[go_sem]
theorem ia (n:Int) (h : -9223372036854775808<=n/\n<9223372036854775808):Fn Tryz.prog 106 [iN n] [iQ n]:=by
 refine aJ (fn:=Tryz.f106) ?_;simp -dsimp only[go_sem];refine aK (vw n h) ?_;simp -dsimp only[go_sem];refine aK (vw 1 aH) ?_;simp -dsimp only[go_sem];rfl
theorem ji (q:Rat):(q.den:Int)≠0:=by have:=q.den_nz;omega
theorem vd (a b:Rat):Rat.divInt (a.num*b.den+b.num*a.den) (a.den*b.den)=a+b:=by
 conv=>rhs;rw[<-Rat.num_divInt_den a,<-Rat.num_divInt_den b]
 rw[Rat.divInt_add_divInt _ _ (ji a) (ji b)]
theorem uq (a b:Rat):Rat.divInt (a.num*b.num) (a.den*b.den)=a*b:=by
 conv=>rhs;rw[<-Rat.num_divInt_den a,<-Rat.num_divInt_den b]
 rw[Rat.divInt_mul_divInt]
theorem ES (a b:Rat) (ha:QB 17179869184 a) (hb:QB 17179869184 b):Fn Tryz.prog 156 [iQ a,iQ b] [iQ (a*b)]:=by
 obtain⟨a1,a2⟩:=ha;obtain⟨b1,b2⟩:=hb;have h1:=fh a.num b.num;have h2:=fh a.den b.den;refine aJ (fn:=Tryz.f156) ?_;simp -dsimp only[go_sem];refine ap 13 [] false true ?_;simp -dsimp only[go_sem];refine aQ (args':=[.c (.lst [eZ a.num,eZ b.num])]) rfl (gM _ _ aw aw) ?_;simp -dsimp only[go_sem];refine aQ (args':=[.c (.lst [eZ a.den,eZ b.den])]) rfl (gM _ _ aw aw) ?_;simp -dsimp only[go_sem];refine aQ (args':=[iZ (a.num*b.num),iZ (a.den*b.den)]) rfl (rA _ _ (Int.mul_ne_zero (ji a) (ji b)) aw aw) ?_;simp -dsimp only[go_sem];rw[uq];rfl
theorem ET (a b:Rat) (ha:QB 8589934592 a) (hb:QB 8589934592 b):Fn Tryz.prog 149 [iQ a,iQ b] [iQ (a+b)]:=by
 obtain⟨a1,a2⟩:=ha;obtain⟨b1,b2⟩:=hb;have h1:=fh a.num b.den;have h2:=fh b.num a.den;have h3:=fh a.den b.den;have h4:(lb (a.num*b.den+b.num*a.den)).length<=17179869184+1:=Cs aw aw;refine aJ (fn:=Tryz.f149) ?_;simp -dsimp only[go_sem];refine ap 20 [] false true ?_;simp -dsimp only[go_sem];refine aQ (args':=[.c (.lst [eZ a.num,eZ b.den])]) rfl (gM _ _ aw aw) ?_;simp -dsimp only[go_sem];refine aQ (args':=[.c (.lst [eZ b.num,eZ a.den])]) rfl (gM _ _ aw aw) ?_;simp -dsimp only[go_sem];refine aQ (args':=[iZ (a.num*b.den),iZ (b.num*a.den)]) rfl (Dt _ _ aw aw) ?_;simp -dsimp only[go_sem];refine aQ (args':=[.c (.lst [eZ a.den,eZ b.den])]) rfl (gM _ _ aw aw) ?_;simp -dsimp only[go_sem];refine aQ (args':=[iZ (a.num*b.den+b.num*a.den),iZ (a.den*b.den)]) rfl (rA _ _ (Int.mul_ne_zero (ji a) (ji b)) aw aw) ?_;simp -dsimp only[go_sem];rw[vd];rfl
theorem IB {q:Rat} (h:q≠0):q.num≠0:=fun e=>h (Rat.num_eq_zero.1 e)
theorem u3 (a b:Rat):Rat.divInt (a.num*b.den) (a.den*b.num)=a/b:=by
 conv=>rhs;rw[Rat.div_def,<-Rat.num_divInt_den a,<-Rat.num_divInt_den b]
 rw[Rat.inv_divInt,Rat.divInt_mul_divInt]
theorem tu (a b:Rat) (hb0:b≠0) (ha:QB 17179869184 a) (hb:QB 17179869184 b):Fn Tryz.prog 154 [iQ a,iQ b] [iQ (a/b),iN 0]:=by
 obtain⟨a1,a2⟩:=ha;obtain⟨b1,b2⟩:=hb;have h1:=fh a.num b.den;have h2:=fh a.den b.num;refine aJ (fn:=Tryz.f154) ?_;simp -dsimp only[go_sem];refine ap 15 [] false true ?_;simp -dsimp only[go_sem];refine aQ (args':=[.c (.lst [eZ a.num,eZ b.den])]) rfl (gM _ _ aw aw) ?_;simp -dsimp only[go_sem];refine aQ (args':=[.c (.lst [eZ a.den,eZ b.num])]) rfl (gM _ _ aw aw) ?_;simp -dsimp only[go_sem];refine aQ (args':=[iZ (a.num*b.den),iZ (a.den*b.num)]) rfl (PX _ _ (Int.mul_ne_zero (ji a) (IB hb0)) aw aw) ?_;simp -dsimp only[go_sem];rw[u3];rfl
theorem M3 (a b:Rat) (ha:QB 17179869184 a) (hb:QB 17179869184 b):Fn Tryz.prog 177 [iQ a,iQ b] [iN (fv (a.num*b.den) (b.num*a.den))]:=by
 obtain⟨a1,a2⟩:=ha;obtain⟨b1,b2⟩:=hb;have h1:=fh a.num b.den;have h2:=fh b.num a.den;refine aJ (fn:=Tryz.f177) ?_;simp -dsimp only[go_sem];refine ap 14 [] false true ?_;simp -dsimp only[go_sem];refine aQ (args':=[.c (.lst [eZ a.num,eZ b.den])]) rfl (gM _ _ aw aw) ?_;simp -dsimp only[go_sem];refine aQ (args':=[.c (.lst [eZ b.num,eZ a.den])]) rfl (gM _ _ aw aw) ?_;simp -dsimp only[go_sem];refine aQ (args':=[iZ (a.num*b.den),iZ (b.num*a.den)]) rfl (Dr _ _ aw aw) ?_;simp -dsimp only[go_sem]
theorem d8 (n:Int) (h : -9223372036854775808<=n/\n<9223372036854775808):Fn Tryz.prog 86 [iN n] [iQ n]:=by
 refine aJ (fn:=Tryz.f86) ?_;simp -dsimp only[go_sem];refine aK (yx n h) ?_;simp -dsimp only[go_sem];refine aK (yx 1 aH) ?_;simp -dsimp only[go_sem];rfl
theorem lT (q:Rat):Fn Tryz.prog 102 [iQ q] [iN q.num.sign]:=by
 refine aJ (fn:=Tryz.f102) ?_;simp -dsimp only[go_sem];refine ao (km q.num) rfl ?_;simp -dsimp only[go_sem]
theorem GX (a b:Rat) (ha:QB 17179869184 a) (hb:QB 17179869184 b):Fn Tryz.prog 128 [iQ a,iQ b] [iB (decide (a=b))]:=by
 obtain⟨a1,a2⟩:=ha;obtain⟨b1,b2⟩:=hb;refine aJ (fn:=Tryz.f128) ?_;simp -dsimp only[go_sem];refine aQ (args':=[iZ a.num,iZ b.num]) rfl (AY _ _ aw aw) ?_;by_cases h:a.num=b.num
 ·simp -dsimp only[go_sem,h];refine aQ (args':=[iZ a.den,iZ b.den]) rfl (AY _ _ aw aw) ?_;simp -dsimp only[go_sem];refine congrArg (fun x=>some [iB x]) ?_;rw[decide_eq_decide];exact⟨fun h'=>Rat.ext h aw,fun h'=>by rw[h']⟩
 ·simp -dsimp only[go_sem,h];refine congrArg (fun x=>some [iB x]) ?_;rw[eq_comm,decide_eq_false_iff_not];exact fun h'=>h (by rw[h'])
theorem ER (n d:Int) (hd:d≠0) (hn:(lb n).length<68719476736) (hd':(lb d).length<68719476736):Fn Tryz.prog 181 [iZ n,iZ d] [iQ (Rat.divInt n d),iN 0]:=by
 have key:∀{u v:Int},u=(Rat.divInt n d).num->v=(Rat.divInt n d).den->some [IV.g (eZ u++eZ v),iN 0]=some [iQ (Rat.divInt n d),iN 0]:=fun h1 h2=>by rw[h1,h2];rfl
 have e0:decide (d.sign=0)=false:=by rw[oj];exact aG hd
 have hg0:(Int.gcd n d:Int)≠0:=by
  intro h;have:=Int.gcd_eq_zero_iff.1 (Int.ofNat.inj h);exact hd this.2
 have hgl:(lb (Int.gcd n d:Int)).length<=(lb d).length:=fI (by
  have h1:=fX d;have h2:Int.gcd n d<=d.natAbs:=Nat.le_of_dvd aw (Int.gcd_dvd_natAbs_right n d);omega)
 refine aJ (fn:=Tryz.f181) ?_;simp -dsimp only[go_sem];refine ao (km d) rfl ?_;simp -dsimp only[go_sem,e0];by_cases hs:d<0
 ·have es:decide (d.sign<0)=true:=by rw[sZ];exact aF hs
  refine ao (km d) rfl ?_;simp -dsimp only[go_sem,es];refine ap 4 [] false true ?_;simp -dsimp only[go_sem];refine ao (oG n aw) rfl ?_;simp -dsimp only[go_sem];refine ao (oG d aw) rfl ?_;simp -dsimp only[go_sem];refine ao (EP (-n) (-d) (by rw[kU];omega) (by rw[kU];omega)) rfl ?_;rw[Int.neg_gcd,Int.gcd_neg];generalize hg:(Int.gcd n d:Int)=g at *
  simp -dsimp only[go_sem];refine ao (ko (-n) g hg0 (by rw[kU];omega) aw) rfl ?_;simp -dsimp only[go_sem];refine ao (ko (-d) g hg0 (by rw[kU];omega) aw) rfl ?_;simp -dsimp only[go_sem];refine key ?_ ?_
  ·rw[iC n d hd,hg,if_pos hs]
  ·rw[iD n d hd,hg];congr 1;omega
 ·have es:decide (d.sign<0)=false:=by rw[sZ];exact aG hs
  refine ao (km d) rfl ?_;simp -dsimp only[go_sem,es];refine ao (EP (n) (d) aw aw) rfl ?_;generalize hg:(Int.gcd n d:Int)=g at *
  simp -dsimp only[go_sem];refine ao (ko (n) g hg0 aw aw) rfl ?_;simp -dsimp only[go_sem];refine ao (ko (d) g hg0 aw aw) rfl ?_;simp -dsimp only[go_sem];refine key ?_ ?_
  ·rw[iC n d hd,hg,if_neg hs]
  ·rw[iD n d hd,hg];congr 1;omega
theorem EQ (n d:Int) (hd:d≠0) (hn:(lb n).length<68719476736) (hd':(lb d).length<68719476736):Fn Tryz.prog 141 [iZ n,iZ d] [iQ (Rat.divInt n d)]:=by
 refine aJ (fn:=Tryz.f141) ?_;simp -dsimp only[go_sem];refine ao (ER n d hd hn hd') rfl ?_;simp -dsimp only[go_sem];rfl
theorem Kk (a b:Rat) (ha:QB 17179869184 a) (hb:QB 17179869184 b):Fn Tryz.prog 143 [iQ a,iQ b] [iQ (a*b)]:=by
 obtain⟨a1,a2⟩:=ha;obtain⟨b1,b2⟩:=hb;have h1:=fh a.num b.num;have h2:=fh a.den b.den;refine aJ (fn:=Tryz.f143) ?_;simp -dsimp only[go_sem];refine ap 11 [] false true ?_;simp -dsimp only[go_sem];refine aQ (args':=[iZ a.num,iZ b.num]) rfl (iS _ _ aw aw) ?_;simp -dsimp only[go_sem];refine aQ (args':=[iZ a.den,iZ b.den]) rfl (iS _ _ aw aw) ?_;simp -dsimp only[go_sem];refine aQ (args':=[iZ (a.num*b.num),iZ (a.den*b.den)]) rfl (EQ _ _ (Int.mul_ne_zero (ji a) (ji b)) aw aw) ?_;simp -dsimp only[go_sem];rw[uq];rfl
theorem A5 (a b:Rat) (ha:QB 8589934592 a) (hb:QB 8589934592 b):Fn Tryz.prog 101 [iQ a,iQ b] [iQ (a+b)]:=by
 obtain⟨a1,a2⟩:=ha;obtain⟨b1,b2⟩:=hb;have h1:=fh a.num b.den;have h2:=fh b.num a.den;have h3:=fh a.den b.den;have h4:(lb (a.num*b.den+b.num*a.den)).length<=17179869184+1:=Cs aw aw;refine aJ (fn:=Tryz.f101) ?_;simp -dsimp only[go_sem];refine ap 12 [5] false true ?_;simp -dsimp only[go_sem];refine aQ (args':=[iZ a.num,iZ b.den]) rfl (iS _ _ aw aw) ?_;simp -dsimp only[go_sem];refine aQ (args':=[iZ b.num,iZ a.den]) rfl (iS _ _ aw aw) ?_;simp -dsimp only[go_sem];refine aQ (args':=[iZ (a.num*b.den),iZ (b.num*a.den)]) rfl (tt _ _ aw aw) ?_;simp -dsimp only[go_sem];refine ap 7 [] false true ?_;simp -dsimp only[go_sem];refine aQ (args':=[iZ a.den,iZ b.den]) rfl (iS _ _ aw aw) ?_;simp -dsimp only[go_sem];refine aQ (args':=[iZ (a.num*b.den+b.num*a.den),iZ (a.den*b.den)]) rfl (EQ _ _ (Int.mul_ne_zero (ji a) (ji b)) aw aw) ?_;simp -dsimp only[go_sem];rw[vd];rfl
theorem A4 (a b:Rat) (hb0:b≠0) (ha:QB 17179869184 a) (hb:QB 17179869184 b):Fn Tryz.prog 199 [iQ a,iQ b] [iQ (a/b),iN 0]:=by
 obtain⟨a1,a2⟩:=ha;obtain⟨b1,b2⟩:=hb;have h1:=fh a.num b.den;have h2:=fh a.den b.num;refine aJ (fn:=Tryz.f199) ?_;simp -dsimp only[go_sem];refine ap 13 [] false true ?_;simp -dsimp only[go_sem];refine aQ (args':=[iZ a.num,iZ b.den]) rfl (iS _ _ aw aw) ?_;simp -dsimp only[go_sem];refine aQ (args':=[iZ a.den,iZ b.num]) rfl (iS _ _ aw aw) ?_;simp -dsimp only[go_sem];refine aQ (args':=[iZ (a.num*b.den),iZ (a.den*b.num)]) rfl (ER _ _ (Int.mul_ne_zero (ji a) (IB hb0)) aw aw) ?_;simp -dsimp only[go_sem];rw[u3];rfl
theorem xb (a b:Rat) (hb0:b≠0) (ha:QB 17179869184 a) (hb:QB 17179869184 b):Fn Tryz.prog 159 [iQ a,iQ b] [iQ (a/b)]:=by
 refine aJ (fn:=Tryz.f159) ?_;simp -dsimp only[go_sem];refine ao (A4 a b hb0 ha hb) rfl ?_;simp -dsimp only[go_sem];rfl
end Go.AM
