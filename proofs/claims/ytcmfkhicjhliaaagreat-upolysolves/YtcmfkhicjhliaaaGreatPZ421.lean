/- Lemmas, part 22 of 23. No condition. -/
import Derived.Test.YtcmfkhicjhliaaaGreatPZ420
import Derived.ProofKit
import Derived.Deep.Slices
import Derived.OpenShut
import Derived.Test.YtcmfkhicjhliaaaGreatRows
set_option maxRecDepth 65536
set_option linter.unusedSimpArgs false
set_option linter.unusedVariables false
set_option linter.unusedSectionVars false
namespace Go.AM
open Alg
open Go.Proofs
open Classical
theorem three {P:KP} (h:aa P<=3):P=an (P.c 0)+an (P.c 1)*ak+an (P.c 2)*(ak*ak):=Alg.P.ext fun i=>by
 rw[cd,cd,bP,bP,X_c,show(ak*ak:KP)=mon 1 1*mon 1 1 from rfl,dM,bV,mul_one]
 match i with
 | 0=>rw[if_neg aw,if_neg aw,mul_zero,mul_zero,add_zero,add_zero];rfl
 | 1=>rw[if_pos rfl,if_neg aw,mul_zero,mul_one,dV,zero_add,add_zero]
 | 2=>rw[if_neg aw,if_pos rfl,mul_zero,mul_one,dV,add_zero,zero_add]
 | i+3=>rw[if_neg aw,if_neg aw,mul_zero,mul_zero,dV,add_zero,add_zero];exact aP aw
theorem xo {P q:KP} {w:Nat} (sP:aa P<=3) (sq:aa q=2) (wP:PW w P) (wq:PW 8 q):PW (2*w+25) (qu P q)/\∃ r,ab P q=an r/\FB (3*w+34) r:=by
 obtain⟨q1,hq1⟩:∃ x,q.c 1=x:=⟨_,rfl⟩;obtain⟨q0,hq0⟩:∃ x,q.c 0=x:=⟨_,rfl⟩;have n1:q1≠0:=by
  have:=jn (p:=q) aw;rwa [sq,hq1]at this
 have f1:=wq 1;have f0:=wq 0;rw[hq1]at f1;rw[hq0]at f0;have hq:q=an q0+an q1*ak:=by
  have h:=three (P:=q) aw;rw[hq0,hq1,aP (p:=q) (i:=2) aw,cu,zero_mul,add_zero]at h;exact h
 have fi:=f1.inv n1;have w0:=wP 0;have w1:=wP 1;have w2:=wP 2;have hP:=three sP;generalize P.c 0=c0 at *
 generalize P.c 1=c1 at *
 generalize P.c 2=c2 at *
 have ft1:=w2.mul fi;have ft0:=(w1.sub (ft1.mul f0)).mul fi;have fr:=w0.sub (ft0.mul f0);have hii:(an q1:KP)*an (Alg.inv q1)=1:=by rw[<-bB,mul_inv n1,ci]
 have key:P=(an ((c1-c2*Alg.inv q1*q0)*Alg.inv q1)+an (c2*Alg.inv q1)*ak)*q+an (c0-(c1-c2*Alg.inv q1*q0)*Alg.inv q1*q0):=by
  rw[hP,hq];simp only[J7,bB];have e:∀ a b:KP,(a=b*1)->a=b*(an q1*an (Alg.inv q1)):=fun a b h=>by rw[hii];exact h
  generalize (an q1:KP)=Q1 at *
  generalize (an (Alg.inv q1):KP)=I at *
  generalize (an q0:KP)=Q0 at *
  generalize (an c0:KP)=A at *
  generalize (an c1:KP)=B at *
  generalize (an c2:KP)=D at *
  have h:((B-D*I*Q0)*I+D*I*ak)*(Q0+Q1*ak)+(A-(B-D*I*Q0)*I*Q0)=A+(B-D*I*Q0)*(Q1*I)*ak+D*I*Q0*ak+D*(Q1*I)*(ak*ak):=ring [A,B,D,I,Q0,Q1,ak];rw[h,hii];exact ring [A,B,D,I,Q0,ak]
 obtain⟨e1,e2⟩:=kj key (by rw[sq];have:=fU (c0-(c1-c2*Alg.inv q1*q0)*Alg.inv q1*q0);omega);rw[e1,e2];refine⟨fun i=>?_,_,rfl,fr.mono aw⟩;rw[cd,bP,X_c]
 match i with
 | 0=>rw[if_neg aw,mul_zero,add_zero];exact ft0.mono aw
 | 1=>rw[if_pos rfl,mul_one,dV,zero_add];exact ft1.mono aw
 | i+2=>rw[if_neg aw,mul_zero,dV,add_zero];exact dz _
theorem N7 {P:KP} {c:KQ} (hc:c≠0):qu P (an c)=P*an (Alg.inv c):=lH (fg hc) (by
 rw[mul_assoc,<-bB,cn hc,ci,mul_one])
structure Sol (p q r s t:KP):Prop where
 f:Fn Tryz.prog 28 [ku p,ku q,ku r] [ku s,ku t,iN 0]
 e:s*p+t*q=r
 sm:q=0/\t=0\/q≠0/\aa s<aa q
 ws:PW 116 s
 wt:PW 291 t
 ss:aa s<=3
 st:aa t<=3
 wsp:PW 124 (s*p)
 ssp:aa (s*p)<=3
theorem NW {p q r:KP} (hp:PW 8 p) (hq:PW 8 q) (hr:PW 8 r) (sp:aa p<=2) (sq:aa q<=2) (sr:aa r<=3) (hg:aa (ai p q)=1):∃ s t,Sol p q r s t:=by
 have hG:=Nk hp hq sp sq;have w0:PW 0 (0:KP):=fun i=>dz 0;have s0:aa (0:KP)=0:=aM.2 rfl;by_cases h0:q=0
 ·subst h0;have hs1:aa p=1:=by rwa [lZ,Dr]at hg
  obtain⟨c,hc,rfl⟩:=uE hs1;have fc:FB 8 c:=hp 0;have wq:PW 16 (r*an (Alg.inv c)):=hr.scale (fc.inv hc);have sqr:aa (r*an (Alg.inv c))<=3:=by rw[vB _ (eA hc)];exact sr
  have hback:r*an (Alg.inv c)*an c=r:=by rw[mul_assoc,<-bB,cn hc,ci,mul_one]
  have hQ:=JO (fg hc) hr hp (ax (jj 8 8 (by omega:_<=3)) aH) aw aw aw;have hS:=AC hG hg hQ;rw[N7 hc]at hS;exact⟨_,0,hS,by rw[hback,zero_mul,add_zero],.inl ⟨rfl,rfl⟩,wq.mono aw,w0.mono aw,sqr,aw,by rw[hback];exact hr.mono aw,by rw[hback];exact sr⟩
 have hqp:=aR h0;by_cases h1:aa q=1
 ·obtain⟨c,hc,rfl⟩:=uE h1;have fc:FB 8 c:=hq 0;have wq:PW 16 (r*an (Alg.inv c)):=hr.scale (fc.inv hc);have sqr:aa (r*an (Alg.inv c))<=3:=by rw[vB _ (eA hc)];exact sr
  have hback:r*an (Alg.inv c)*an c=r:=by rw[mul_assoc,<-bB,cn hc,ci,mul_one]
  have hQ:=JO (fg hc) hr hq (ax (jj 8 8 (by omega:_<=3)) aH) aw aw aw;have hM:=rM w0 hp (by rw[s0];omega) aw aw aw aw;rw[zero_mul]at hM;have hS0:=AB hr w0 aw aw aw;rw[sub_zero]at hS0;have hS:=CP hG hg h1 hM hS0 hQ;rw[N7 hc]at hS;exact⟨0,_,hS,by rw[hback,zero_mul,zero_add],.inr ⟨h0,aw⟩,w0.mono aw,wq.mono aw,aw,sqr,by rw[zero_mul];exact w0.mono aw,by rw[zero_mul];omega⟩
 ·have h2:aa q=2:=aw;obtain⟨-,c,ec,fc⟩:=xo (P:=p) aw h2 hp hq;have sre:=(qure (a:=p) h0).2;have hpq:=(qure (a:=p) h0).1;have hc:c≠0:=fun e=>by
   rw[e,cu]at ec;rw[gd1 h0 ec,Dr]at hg;omega
  have hr1:aa (ab p q)=1:=by rw[ec];exact sY hc
  have hii:(an c:KP)*an (Alg.inv c)=1:=by rw[<-bB,mul_inv hc,ci]
  have h1i:qu 1 (ab p q)=an (Alg.inv c):=by rw[ec,N7 hc,one_mul]
  have fi:=fc.inv hc;have wri:PW 66 (r*an (Alg.inv c)):=(hr.scale fi).mono aw;have sri:aa (r*an (Alg.inv c))<=3:=by rw[vB _ (eA hc)];exact sr
  obtain⟨-,rr,er,fr⟩:=xo (P:=r) sr h2 hr hq;have hrq:=(qure (a:=r) h0).1;have es:ab (r*an (Alg.inv c)) q=an (rr*Alg.inv c):=by
   refine tz (q:=qu r q*an (Alg.inv c)) ?_ (by rw[h2];have:=fU (rr*Alg.inv c);omega);rw[er]at hrq
   conv=>lhs;rw[hrq]
   rw[bB];exact ring [qu r q,q,an rr,an (Alg.inv c)]
  have fs:FB 116 (rr*Alg.inv c):=(fr.mul fi).mono aw;have wsp:PW 124 (an (rr*Alg.inv c)*p):=by rw[mul_comm];exact(hp.scale fs).mono aw
  have ssp:aa (an (rr*Alg.inv c)*p)<=2:=by
   have:=Kv (an (rr*Alg.inv c)) p;have:=fU (rr*Alg.inv c);omega
  have wD1:PW 133 (r-an (rr*Alg.inv c)*p):=hr.sub wsp;have sD1:aa (r-an (rr*Alg.inv c)*p)<=3:=fh sr aw;have hdv:ab (r-an (rr*Alg.inv c)*p) q=0:=by
   refine tw (q:=qu r q-an (rr*Alg.inv c)*qu p q) h0 ?_;rw[er]at hrq;rw[ec]at hpq;have hcc:an rr-an (rr*Alg.inv c)*an c=(0:KP):=by
    rw[bB,mul_assoc,mul_comm (an (Alg.inv c)),hii,mul_one,sub_self]
   have hring:r-an (rr*Alg.inv c)*p=(qu r q-an (rr*Alg.inv c)*qu p q)*q+(an rr-an (rr*Alg.inv c)*an c):=by
    conv=>lhs;rw[hrq,hpq]
    exact ring [qu r q,qu p q,q,an rr,an c,an (rr*Alg.inv c)]
   rw[hring,hcc,add_zero]
  have hfin:=(qure (a:=r-an (rr*Alg.inv c)*p) h0).1;rw[hdv,add_zero]at hfin;obtain⟨wt,-⟩:=xo sD1 h2 wD1 hq;have stt:=(Na h0 wD1 hq).2.2.1;have wc1:PW 58 (an (Alg.inv c):KP):=qc fi;have sC:=fU (Alg.inv c);have sC2:=fU (rr*Alg.inv c);refine⟨an (rr*Alg.inv c),qu (r-an (rr*Alg.inv c)*p) q,va hG hg h2 hr1 (oY h0 hp hq aw aw aw) ?_ ?_ ?_ ?_ ?_ ?_,?_,.inr ⟨h0,aw⟩,qc fs,wt.mono aw,aw,aw,wsp,aw⟩
  ·rw[ec];exact AD (fg hc) CN (qc fc) (by rw[mX,sY hc];omega) aw (by rw[sY hc];omega)
  ·rw[h1i];exact rM hr wc1 (ax (Nat.mul_le_mul_right _ sr) aw) aw aw aw aw
  ·rw[h1i];have:=oY h0 wri hq aw aw aw;rwa [es]at this
  ·exact rM (qc fs) hp (ax (Nat.mul_le_mul_right _ sC2) aw) aw aw aw aw
  ·exact AB hr wsp aw aw aw
  ·exact AD h0 wD1 hq aw aw aw
  ·rw[<-hfin];exact ring [r,an (rr*Alg.inv c)*p]
set_option maxHeartbeats 8000000 in
theorem Bi (a b c:List ju) (ha:OkL a) (hb:OkL b) (hc:OkL c):Fn Tryz.prog 6 [rl a,rl b,rl c] [iB true]:=by
 have hs:=Ff;have m1:=qW a 2 aw ha.1 ha.2;have m2:=qW b 2 aw hb.1 hb.2;have m3:=JL c hc.1 hc.2;have wp:=xn 2 ha.2;have wq:=xn 2 hb.2;have wr:=xn 3 hc.2;have sp:=tU a 2;have sq:=tU b 2;have sr:=tU c 3;generalize pE a 2=p at *
 generalize pE b 2=q at *
 generalize pE c 3=r at *
 clear ha hb hc;have f2:=Pa wp wq sp sq;have e0:decide ((aa (0:KP):Int)=0)=true:=by rw[aM.2 rfl];rfl
 refine aJ (fn:=Tryz.f6) ?_;simp -dsimp only[go_sem];refine aK hs ?_;simp -dsimp only[go_sem];refine ao m1 rfl ?_;simp -dsimp only[go_sem];refine ao m2 rfl ?_;simp -dsimp only[go_sem];refine aK m3 ?_;simp -dsimp only[go_sem];by_cases hg:aa (ai p q)=1
 ·obtain⟨s,t,h⟩:=NW wp wq wr sp sq sr hg;obtain⟨f1,he,hsm,ws,wt,ss,st,wsp,ssp⟩:=h;have eg:decide ((aa (ai p q):Int)=1)=true:=aF aw;have g1:=Ed ws aw aw;have g2:=Ed wt aw aw;have g3:=Jw ws wp (ax (Nat.mul_le_mul_right _ sp) aw) aw;have g4:=Jw wt wq (ax (Nat.mul_le_mul_right _ sq) aw) aw;have etq:t*q=r-s*p:=by rw[<-he];exact ring [s,p,t,q]
  have wtq:PW 133 (t*q):=by rw[etq];exact wr.sub wsp
  have stq:aa (t*q)<=3:=by rw[etq];exact fh sr ssp
  have g5:=Eg wsp wtq aw aw aw;rw[he]at g5;have g6:=ij wr aw aw;refine ao f1 rfl ?_;simp -dsimp only[go_sem];refine ao f2 rfl ?_;have fin:∀ K:Prop,K->K:=fun _ h=>h;rcases hsm with⟨hq0,ht0⟩|⟨hq0,hlt⟩
  ·have eq:decide ((aa q:Int)=0)=true:=by rw[hq0];exact e0
   have et:decide ((aa t:Int)=0)=true:=by rw[ht0];exact e0
   simp -dsimp only[go_sem,az,aZ,eg,eq,et];refine ao g1 rfl ?_;simp -dsimp only[go_sem];refine ao g2 rfl ?_;simp -dsimp only[go_sem];refine ao g3 rfl ?_;simp -dsimp only[go_sem];refine ao g4 rfl ?_;simp -dsimp only[go_sem];refine ao g5 rfl ?_;simp -dsimp only[go_sem];refine ao g6 rfl ?_;simp -dsimp only[go_sem]
  ·have hqp:=aR hq0;have eq:decide ((aa q:Int)=0)=false:=aG aw;have eq2:decide ((0:Int)<(aa q:Int))=true:=aF aw;have elt:decide ((aa s:Int)<(aa q:Int))=true:=aF aw;simp -dsimp only[go_sem,az,aZ,eg,eq,eq2,elt];refine ao g1 rfl ?_;simp -dsimp only[go_sem];refine ao g2 rfl ?_;simp -dsimp only[go_sem];refine ao g3 rfl ?_;simp -dsimp only[go_sem];refine ao g4 rfl ?_;simp -dsimp only[go_sem];refine ao g5 rfl ?_;simp -dsimp only[go_sem];refine ao g6 rfl ?_;simp -dsimp only[go_sem]
 ·have f1:=wH (c:=r) (Nk wp wq sp sq) hg;have eg:decide ((aa (ai p q):Int)=1)=false:=aG aw;refine ao f1 rfl ?_;simp -dsimp only[go_sem];refine ao f2 rfl ?_;simp -dsimp only[go_sem,az,aZ,eg,e0]
end Go.AM
namespace Go.AM
open Go.Deep
section
variable {H:Type} {enc:TypeId×Value->H} {P:Program} {w:World} {base:Nat} {spare:Nat->Bool} {held:Bool}
abbrev nob:Nat->Prop:=fun _=>False
theorem Jh {a:Addr} (h:a.spot=none) (n:Nat):a.add n=⟨a.block,a.off+n,none⟩:=by
 obtain⟨b,o,s⟩:=a;subst h;unfold Addr.add;by_cases hn:n=0
 ·subst hn;rfl
 ·simp[hn]
theorem Fc {a:Addr} {v:Value} (h:w.cell? a=some v):a.spot=none/\a.block<w.heap.size:=by
 unfold World.cell? at h;split at h
 ·rename_i hb;refine⟨?_,(Array.getElem?_eq_some_iff.1 hb).1⟩;cases hs:a.spot with
  | none=>rfl
  | some _=>simp[hs]at h
 ·simp at h
theorem tv {α:Type} [Inhabited α] {t e:TypeId} {fuel:Nat} {cs:List Value} {x:DataW H×List MemPlace} (F:α->List C) (ok:α->Prop) {n:Nat} (hn:0<n) (ht:P.underlying t=some (.slice e)) (hc:P.cellsOf e=n)
  (he:∀ fuel cs x,DataW.trod enc P w base spare held fuel e cs=some x->cs.length=n->∃ r:α,ok r/\(F r).length=n/\aY w nob (F r) cs)
  (h:DataW.trod enc P w base spare held fuel t cs=some x):∃ l:List α,(∀ r∈l,ok r)/\l.length<=maxLen/\∃ y,cs=[y]/\cy w nob (.lst (l.map F)) y:=by
 rcases open_slice ht h with⟨rfl,_⟩|⟨a,len,cap,m,k,D,Pl,rfl,hb,hl,hcap,hm,_,hx⟩
 ·refine⟨[],au,au,_,rfl,?_⟩;simp only[List.map_nil,cy];exact⟨none,0,0,rfl,rfl,ay _,.inl trivial⟩
 rw[hc]at hx;have hlm:len<=m:=by rw[hm];split<;>omega
 obtain⟨f,hf⟩:=choose_lt (α:=α) (n:=len) (p:=fun i r=>ok r/\(F r).length=n/\∃ cs',w.cells? base (a.add (i*n)) n=some cs'/\aY w nob (F r) cs') (fun i hi=>by
  obtain⟨cs',h1,h2⟩:=hx i aw;obtain⟨r,h3,h4,h5⟩:=he _ _ _ h2 (World.cells?_some h1).2.1;exact⟨r,h3,h4,cs',h1,h5⟩)
 refine⟨(List.range len).map f,fun r hr=>?_,ar,_,rfl,?_⟩
 ·obtain⟨i,hi,rfl⟩:=List.mem_map.1 hr;exact(hf i (List.mem_range.1 hi)).1
 simp only[cy];refine⟨some a,len,cap,rfl,au,hl,?_⟩;by_cases h0:len=0
 ·subst h0;exact .inl rfl
 ·right;have hs:a.spot=none/\a.block<w.heap.size:=by
   obtain⟨_,h2,cs',h1,_⟩:=hf 0 aw;obtain⟨_,h4,h5⟩:=World.cells?_some h1;have h6:=h5 0 hn;rw[aD aw]at h6;simp only[Nat.zero_mul,Addr.add,if_true]at h6;exact Fc h6
  refine⟨a.block,a.off,n,?_,hs.2,id,aS.of_get fun i r hi=>?_⟩
  ·obtain⟨b,o,s⟩:=a;obtain⟨rfl,_⟩:=hs;rfl
  ·rw[List.map_map,List.getElem?_map]at hi;by_cases hil:i<len
   ·rw[List.getElem?_range hil]at hi;simp only[Option.map_some,Option.some.injEq,Function.comp]at hi;subst hi;obtain⟨_,h2,cs',h1,h3⟩:=hf i hil;obtain⟨_,h4,h5⟩:=World.cells?_some h1;refine⟨h2,bt.of_reps h3 fun j hj=>?_⟩;rw[<-h5 j aw,add_add,Jh hs.1,Nat.add_assoc]
   ·rw[List.getElem?_eq_none ar]at hi;simp at hi
theorem aY.split {w:World} {M:Nat->Prop} {cs:List C} {ys:List Value} (n:Nat) {bs:List C} (h1:aY w M bs (ys.take n)) (h2:aY w M cs (ys.drop n)):aY w M (bs++cs) ys:=by
 have:=h1.append h2;rwa [List.take_append_drop]at this
end
theorem BD {H:Type} {enc:TypeId×Value->H} {P:Program} {f:Func} {s:ChangeSpec} {fresh handsOn:Bool} {W W':World} {args:Array Value} {ds:List (DataW H)} {before:List MemPlace} {t:TypeId} (hl:laidOutB P=true)
  (hW:DataW.Whole enc P f.params.toList s.vars false W args.toList ds [] before) (hv:s.vars=[]) (hrt:f.resultTypes = #[t]) (ht:P.underlying t=some .bool) (hres:(s.fn H (ds++[])).results=[.lit (.bool true)])
  (hargs:(s.fn H (ds++[])).args=ds) (hvars:(s.fn H (ds++[])).vars=[]) (hrd:∀ t∈f.params.toList,P.readableRec t=true/\t<P.types.size) (hb:bq W.heap.size W W') :
  s.post enc P f false fresh handsOn false W args (.bool true) W':=by
 have hB:Go.RowKit.Below W.heap.size W W':=⟨hb.os,hb.tape,hb.output,hb.size,hb.block⟩;have hlt:=hW.lt;have hW':=hW;obtain⟨p,q,hA,hV,rfl,-,-⟩:=hW;refine⟨ds,[],_,[],p,[],hW',?_,?_,?_,hB.frame _,fun h=>by cases h⟩
 ·rw[hres,hrt];exact Go.ChangeShapes.trodAll_mk1 (Go.RowKit.shut_bool ht true)
 ·rw[hargs];have key:∀(ts:List TypeId) (vs:List Value) (ds:List (DataW H)) (ps:List MemPlace),(∀ t∈ts,P.readableRec t=true/\t<P.types.size)->(∀ x∈ps,x.block<W.heap.size)->DataW.TrodAll enc P W 0 (fun _=>true) true ts vs ds ps ->
    DataW.TrodAll enc P W' 0 (fun b=>decide (b<W.heap.size)) true ts vs ds ps:=by
   intro ts
   induction ts with
   | nil=>intro vs ds ps _ _ h;cases vs<;>cases ds<;>first|exact h|exact h.elim
   | cons t ts ih =>
    intro vs ds ps hr hx h;cases vs with
    | nil=>exact h.elim
    | cons v vs =>
     cases ds with
     | nil=>exact h.elim
     | cons d ds =>
      obtain⟨p,q,h1,h2,rfl⟩:=h;have hrt:=hr t au;exact⟨p,q,Go.RowKit.Below.trod hl hrt.1 hrt.2 h1 hB (fun x hx'=>hx x (by simp[hx'])),ih vs ds q (fun t ht=>hr t (by simp[ht])) (fun x hx'=>hx x (by simp[hx'])) h2,rfl⟩
  exact key _ _ _ _ hrd (fun x hx=>hlt x (by simp[hx])) hA
 ·rw[hvars,hv];rfl
end Go.AM
namespace Go.AM
open Go.Proofs
open Go.Deep Go.ChangeShapes Go.WideShapes Go.ChangeAt Go.RowKit
section
variable {H:Type} {enc:TypeId×Value->H} {w:World} {base:Nat} {spare:Nat->Bool} {held:Bool}
theorem Qj {cs:List Value} (h:cs.length=5):∃ c0 c1 c2 c3 c4,cs=[c0,c1,c2,c3,c4]:=by
 match cs,h with
 | [c0,c1,c2,c3,c4],_=>exact⟨c0,c1,c2,c3,c4,rfl⟩
theorem twoV {cs:List Value} (h:cs.length=2):∃ c0 c1,cs=[c0,c1]:=by
 match cs,h with
 | [c0,c1],_=>exact⟨c0,c1,rfl⟩
instance:Inhabited T5:=⟨⟨0,0,0,0,0⟩⟩
instance:Inhabited ju:=⟨⟨[],[]⟩⟩
theorem cells124:Tryz.prog.cellsOf 124=5:=by kernel_rfl
theorem cells97:Tryz.prog.cellsOf 97=1:=by kernel_rfl
theorem cells37:Tryz.prog.cellsOf 37=1:=by kernel_rfl
theorem cells39:Tryz.prog.cellsOf 39=2:=by kernel_rfl
theorem MG {n:Int} (h:(Lit.int .i8 n).wf=true) : -128<=n/\n<128:=by
 have:=bounds_i8 h;omega
theorem rep5 {fuel:Nat} {cs:List Value} {x:DataW H×List MemPlace} (h:DataW.trod enc Tryz.prog w base spare held fuel 124 cs=some x):∃ t:T5,t.ok/\t.row.length=5/\aY w nob t.row cs:=by
 obtain⟨xs,m,-,-,hl,hx,he⟩:=DataW.trod_array Tryz.underlying124 h;rw[cells124]at hl;obtain⟨c0,c1,c2,c3,c4,rfl⟩:=Qj hl
 ·have key:∀ i,i<5->∃ n,(([c0,c1,c2,c3,c4]:List Value).drop (i*1)).take 1=[.int .i8 n]/\(Lit.int .i8 n).wf=true:=fun i hi=>by
   have h1:=he i hi;rw[aD aw,show Tryz.prog.cellsOf 97=1 from cells97]at h1;obtain⟨n,h2,_,h3⟩:=DataW.trod_int Tryz.underlying97 h1;exact⟨n,h2,h3⟩
  obtain⟨a,ha,wa⟩:=key 0 aw;obtain⟨b,hb,wb⟩:=key 1 aw;obtain⟨c,hc,wc⟩:=key 2 aw;obtain⟨d,hd,wd⟩:=key 3 aw;obtain⟨e,he5,we⟩:=key 4 aw;simp only[Nat.zero_mul,Nat.one_mul,Nat.reduceMul,aC,List.take_succ_cons,List.take_zero,List.cons.injEq,and_true]at ha hb hc hd he5;subst ha hb hc hd he5;refine⟨⟨a,b,c,d,e⟩,⟨MG wa,MG we⟩,rfl,?_⟩;simp only[T5.row,aY,cy,Value.oneCell',and_self]
theorem repR {fuel:Nat} {cs:List Value} {x:DataW H×List MemPlace} (h:DataW.trod enc Tryz.prog w base spare held fuel 39 cs=some x):∃ t:ju,t.ok/\t.row.length=2/\aY w nob t.row cs:=by
 obtain⟨y0,y1,n,-,hl,h0,h1⟩:=trod_struct2 Tryz.underlying39 h;rw[cells39]at hl;obtain⟨c0,c1,rfl⟩:=twoV hl
 ·simp only[cells37,aC,List.take_succ_cons,List.take_zero]at h0 h1;obtain⟨l0,k0,b0,v0,e0,r0⟩:=tv T5.row T5.ok aH Tryz.underlying37 cells124 (fun f cs x h _=>rep5 h) h0;obtain⟨l1,k1,b1,v1,e1,r1⟩:=tv T5.row T5.ok aH Tryz.underlying37 cells124 (fun f cs x h _=>rep5 h) h1;simp only[List.cons.injEq,and_true]at e0 e1;subst e0 e1;exact⟨⟨l0,l1⟩,⟨⟨b0,b1⟩,k0,k1⟩,rfl,r0,r1,trivial⟩
theorem N3 {v:Value} {d:DataW H} {ps:List MemPlace} (hv:∃ a len cap,v = .slice a len cap) (h:DataW.Trod enc Tryz.prog w base spare held 22 v d ps):∃ l:List ju,OkL l/\jb w nob (rl l) v:=by
 obtain⟨a,len,cap,rfl⟩:=hv;obtain⟨fuel,hf⟩:=h;obtain⟨l,k,b,y,e,r⟩:=tv ju.row ju.ok aH Tryz.underlying22 cells39 (fun f cs x h _=>repR h) hf;have e':Value.slice a len cap=y:=by simpa [Value.cells]using e
 subst e';exact⟨l,⟨b,k⟩,r⟩
end
theorem own:ownKnob Tryz.prog.godebug=none:=by kernel_rfl
theorem Lg:laidOutB Tryz.prog=true:=by kernel_rfl
theorem rd22:Tryz.prog.readableRec 22=true/\22<Tryz.prog.types.size:=⟨by kernel_rfl,of_decide_eq_true (by kernel_rfl)⟩
abbrev iT:IV := .c (.v (.bool true))
set_option maxRecDepth 100000 in
theorem Ig {f:FuncId} {fn:Func} {s:ChangeSpec} (hv:s.vars=[]) (hrt:fn.resultTypes = #[4]) (hrd:∀ t∈fn.params.toList,Tryz.prog.readableRec t=true/\t<Tryz.prog.types.size) {H:Type} {enc:TypeId×Value->H}
  (hc:∀(W:World) (base:Nat) (args:Array Value) (ds:List (DataW H)) (p:List MemPlace),(∀(j:Nat) t v,fn.params[j]?=some t->args[j]?=some v->Value.okWide Tryz.prog W .any base t v)->DataW.TrodAll enc Tryz.prog W 0 (fun _=>true) true fn.params.toList args.toList ds p ->
   (∃ ivs,Fn Tryz.prog f ivs [iT]/\cU W nob ivs args.toList)/\(s.fn H (ds++[])).results=[.lit (.bool true)]/\(s.fn H (ds++[])).args=ds/\(s.fn H (ds++[])).vars=[])
  (W:World) (base:Nat) (args:Array Value) (ds gs:List (DataW H)) (before:List MemPlace) (hval:∀(j:Nat) t v,fn.params[j]?=some t->args[j]?=some v->Value.okWide Tryz.prog W .any base t v)
  (hW:DataW.Whole enc Tryz.prog fn.params.toList s.vars false W args.toList ds gs before):Calls Tryz.prog f args W fun e W'=>∃ v,e = .returned v/\s.post enc Tryz.prog fn false true false false W args v W':=by
 have hW':=hW;obtain⟨p,q,hA,hV,rfl,-,-⟩:=hW;rw[hv]at hV;obtain⟨rfl,rfl⟩:=trodVars_none hV;obtain⟨⟨ivs,hf,hr⟩,h1,h2,h3⟩:=hc W base args ds p hval hA;have hcall:=hf.2 W nob args.toList (fun _ h=>h.elim) hr;rw[Array.toArray_toList]at hcall;refine hcall.mono ?_;rintro e W' ⟨y,rfl,hy,hB⟩;obtain⟨rfl,_⟩:y = .bool true/\_:=by simpa only[xW,jb,cy]using hy
 exact⟨_,rfl,BD Lg hW' hv hrt Tryz.underlying4 h1 h2 h3 hrd hB⟩
end Go.AM
