/- Lemmas, part 17 of 23. No condition. -/
import Derived.Test.YtcmfkhicjhliaaaGreatPZ815
set_option maxRecDepth 65536
set_option linter.unusedSimpArgs false
set_option linter.unusedVariables false
set_option linter.unusedSectionVars false
namespace Go.AM
section
variable {P:Program} {c:uV} {k:Option Nat} {st:St} {x y:Code}
theorem WPi.end_k {Q:bf->St->Option Nat->Prop} (hc:c.OK P) (kind:FuncId->CK) (h:∀ K:bf->St->Prop,(∀ e s,lone c.bs.length s->Q e s k->K e s)->CW P kind x K st):WPi P c x Q st k :=
 WPi.piece hc (h (fun e s=>lone c.bs.length s/\Q e s k) fun _ _ h1 h2=>⟨h1,h2⟩)
theorem WPi.seq_k {Q:bf->St->Option Nat->Prop} (hc:c.OK P) (kind:FuncId->CK) (h:∀ K:bf->St->Prop,(∀ s,lone c.bs.length s->WPi P c y Q s k->K .normal s)->(∀ e s,e ≠ .normal->lone c.bs.length s->Q e s k->K e s)->CW P kind x K st):WPi P c (.seq x y) Q st k:=by
 refine WPi.seq (WPi.end_k hc kind fun K hK=>h K (fun s h1 h2=>hK .normal s h1 h2) fun e s hne h1 h2=>hK e s h1 ?_);cases e with
 | normal=>exact(hne rfl).elim
 | exit id=>exact h2
 | ret=>exact h2
theorem WPi.yreg_k {Q:bf->St->Option Nat->Prop} (hc:c.OK P) (kind:FuncId->CK) {id:Nat} {ops:List Oper} {tf:Operand} {xs:Array Operand} {ty:Array TypeId} (n:Nat) (d:Tmp) (j:Nat) (x:List IV) {o:Oper} (hn:ops[n]?=some o) (ho:o.op = .call ⟨.value tf,xs,ty⟩) (hd:o.dst=some d)
  (hk:k=some j) (hx:c.L[j]?=some x)
  (h:∀ K1 K2:St->Prop,(∀ s,lone c.bs.length s->Q .normal s (some (j+1))->K1 s)->(∀ s,lone c.bs.length s->Q .normal s none->K2 s) ->
   WsF P kind ops (ops.take n) (fun s=>lone c.bs.length s/\gd ops.toArray s o=some true/\s.ev tf=sc (.func (.yield c.l) #[] #[])/\ef (fun x=>s.toIV (s.ev x)) xs.toList=some x /\
    WsF P kind ops (ops.drop (n+1)) K1 (s.put (some d) (sc (.bool true)))/\WsF P kind ops (ops.drop (n+1)) K2 (s.put (some d) (sc (.bool false)))) st):WPi P c (.region id ops.toArray false) Q st k:=by
 have h':=h (fun s=>lone c.bs.length s/\Q .normal s (some (j+1))) (fun s=>lone c.bs.length s/\Q .normal s none) (fun _ h1 h2=>⟨h1,h2⟩) (fun _ h1 h2=>⟨h1,h2⟩);have mono:∀{K K':St->Prop} {l:List Oper} {s:St},(∀ s,K s->K' s)->j3 P kind ops.toArray l K s->j3 P kind ops.toArray l K' s:=by
  intro K K' l
  induction l with
  | nil=>exact fun hk h=>hk _ h
  | cons o l ih=>exact fun hk ⟨t,h1,h2,h3⟩=>⟨t,h1,fun e=>j4 (fun s=>ih hk) (h2 e),fun e=>ih hk (h3 e)⟩
 refine WPi.yreg' hc kind hn ho hd (mono (fun s hs=>?_) (dj (ops:=ops.toArray) h'));obtain⟨h1,h2,h3,h4,h5,h6⟩:=hs;exact⟨h1,true,h2,fun _=>⟨h3,x,j,h4,hk,hx,dj (ops:=ops.toArray) h5,dj (ops:=ops.toArray) h6⟩,fun h=>by cases h⟩
theorem WPi.yreg_no {Q:bf->St->Option Nat->Prop} (hc:c.OK P) (kind:FuncId->CK) {id:Nat} {ops:List Oper} {tf:Operand} {xs:Array Operand} {ty:Array TypeId} (n:Nat) (d:Tmp) {o:Oper} (hn:ops[n]?=some o) (ho:o.op = .call ⟨.value tf,xs,ty⟩) (hd:o.dst=some d)
  (h:∀ K1:St->Prop,(∀ s,lone c.bs.length s->Q .normal s k->K1 s) ->
   WsF P kind ops (ops.take n) (fun s=>lone c.bs.length s/\gd ops.toArray s o=some false/\WsF P kind ops (ops.drop (n+1)) K1 (s.put (some d) (.tup []))) st):WPi P c (.region id ops.toArray false) Q st k:=by
 have h':=h (fun s=>lone c.bs.length s/\Q .normal s k) (fun _ h1 h2=>⟨h1,h2⟩);have mono:∀{K K':St->Prop} {l:List Oper} {s:St},(∀ s,K s->K' s)->j3 P kind ops.toArray l K s->j3 P kind ops.toArray l K' s:=by
  intro K K' l
  induction l with
  | nil=>exact fun hk h=>hk _ h
  | cons o l ih=>exact fun hk ⟨t,h1,h2,h3⟩=>⟨t,h1,fun e=>j4 (fun s=>ih hk) (h2 e),fun e=>ih hk (h3 e)⟩
 refine WPi.yreg' hc kind hn ho hd (mono (fun s hs=>?_) (dj (ops:=ops.toArray) h'));obtain⟨h1,h2,h3⟩:=hs;exact⟨h1,false,h2,(fun h=>nomatch h),fun _=>dj (ops:=ops.toArray) h3⟩
end
section
variable {P:Program} {st:St} {Q:bf->St->Prop} {x y:Code}
theorem WPn.end_k (kind:FuncId->CK) (h:∀ K:bf->St->Prop,(∀ e s,Q e s->K e s)->CW P kind x K st):WPn P x Q st := .of_CW (h Q fun _ _ h=>h)
theorem WPn.seq_k (kind:FuncId->CK) (h:∀ K:bf->St->Prop,(∀ s,WPn P y Q s->K .normal s)->(∀ e s,e ≠ .normal->Q e s->K e s)->CW P kind x K st):WPn P (.seq x y) Q st:=by
 refine WPn.seq (.of_CW (h (jc (WPn P y Q) Q) (fun _ h=>h) fun e s hne h=>?_));cases e with
 | normal=>exact(hne rfl).elim
 | exit id=>exact h
 | ret=>exact h
theorem WP.end_k (kind:FuncId->CK) (h:∀ K:bf->St->Prop,(∀ e s,Q e s->K e s)->CW P kind x K st):WP P x Q st:=bO x (h Q fun _ _ h=>h)
end
end Go.AM
namespace Go.AM
open Alg
open Go.Proofs
open Classical
theorem jT:lU Value.nilFunc = .i (.c (.v Value.nilFunc)):=rfl
theorem xn (t:Tmp) (gf:Nat) (css:List (List C)) (e:bf) (τ:Nat->AV) (β:Nat->BX) (ε:Nat->EN) (π:Nat->MP):P9 t gf css e ⟨τ,β,ε,π⟩=((e = .normal\/e = .ret) /\
 ∃ ts,τ t = .clo gf ts/\(∀ p∈ts,(β p.1).gen=p.2/\0<p.2)/\(ts.map (·.1)).Nodup/\ts.map (fun p=>(β p.1).cs)=css):=rfl
theorem zh (l:Nat) (c:List C):dG l [c]=⟨upd (upd (fun _ => .any) 0 (sc (.func (.yield l) #[] #[]))) 1 (.bp 1000 1 0),upd mi 1000 ⟨1,c⟩,oa,m5⟩:=by
 have e1:(dG l [c]).t=upd (upd (fun _ => .any) 0 (sc (.func (.yield l) #[] #[]))) 1 (.bp 1000 1 0):=by
  funext n
  match n with
  | 0=>rfl
  | 1=>rfl
  | n+2=>rw[aS _ _ aw,aS _ _ aw];rfl
 have e2:(dG l [c]).b=upd mi 1000 ⟨1,c⟩:=by
  funext n;by_cases e:n=1000
  ·subst e;rfl
  ·rw[aS _ _ e];simp only[dG];split
   ·rw[List.getElem?_eq_none ar];rfl
   ·rfl
 show St.mk (dG l [c]).t (dG l [c]).b _ _=_;rw[e1,e2];rfl
theorem cJ {τ:Nat->AV} {c:List C} {n:Nat} (h:n=1):lone n ⟨τ,upd mi 1000 ⟨1,c⟩,oa,m5⟩:=by
 subst h;refine⟨fun t ht=>?_,fun _=>rfl,fun _=>rfl⟩;by_cases e:t=1000
 ·subst e;exact⟨aw,aw,rfl⟩
 ·simp only[aS _ _ e]at ht;simp[mi]at ht
def vV {α:Type} (f:α->IV) (l:List α):List (List IV):=l.zipIdx.reverse.map fun p=>[iN (p.2:Int),f p.1]
theorem jA {α:Type} (f:α->IV) (l:List α):(vV f l).length=l.length:=by simp[vV]
theorem nV {α:Type} (f:α->IV) (l:List α) {i:Nat} (h:i<l.length):(vV f l)[l.length-(i+1)]?=some [iN (i:Int),f l[i]]:=by
 unfold vV;rw[List.getElem?_map,List.getElem?_reverse ar,List.length_zipIdx,show l.length-1-(l.length-(i+1))=i by omega];simp[h]
theorem Mq (rs:List (List C)):FnC Tryz.prog 256 [.c (.lst rs)] 258 [[.lst rs]]:=by
 refine qU kd (fn:=Tryz.f256) av rfl rfl rfl av au av ?_;simp -dsimp only[go_sem,jT];refine lL (ts:=[(1,1)]) (by simp -dsimp only[go_sem]) (by simp -dsimp only[go_sem]) ?_;simp -dsimp only[go_sem,xn];exact⟨[(1,1)],rfl,au,au,rfl⟩
theorem Mp (l:List Int) (hl:l.length<=1099511627776):JH Tryz.prog 258 [[.lst (l.map bF)]] (vV (fun d => .c (.v (.int .u32 d))) l):=by
 refine oS (fn:=Tryz.f258) av rfl rfl rfl av au av ?_;intro c hc hbl hL;rw[zh];have hb1:c.bs.length=1:=hbl;refine WPi.seq_k hc kd fun K hK _=>?_;simp -dsimp only[go_sem,az]
 repeat(refine And.intro aw ?_)
 refine hK _ (cJ hb1) ?_;refine WPi.block (WPi.loop (fun n s k=>∃ τ,s=⟨τ,upd mi 1000 ⟨1,[.lst (l.map bF)]⟩,oa,m5⟩/\τ 0=sc (.func (.yield c.l) #[] #[])/\τ 1 = .bp 1000 1 0/\n<=l.length/\τ 3 = .i (iN ((n:Int)-1))/\k=some (l.length-n)) (n:=l.length) ⟨_,rfl,rfl,rfl,ay _,rfl,au⟩ ?_);rintro n s k ⟨τ,rfl,h0,h1,hn,h3,rfl⟩;refine WPi.seq_k hc kd fun K hK hK2=>?_;cases n with
 | zero =>
  have e1:decide ((0:Int)<=((0:Nat):Int)-1)=false:=rfl;simp -dsimp only[go_sem,h3,e1];refine hK2 _ _ au (cJ hb1) ?_;refine⟨.inl rfl,.inl ?_⟩;rw[jA];simp
 | succ n =>
  have en:((n+1:Nat):Int)-1=(n:Int):=aw;rw[en]at h3;have e1:decide ((0:Int)<=(n:Int))=true:=aF aw;have hg:l[n]?=some l[n]:=aD aw;simp -dsimp only[go_sem,h3,e1];refine hK _ (cJ hb1) ?_;refine WPi.seq ?_;refine WPi.block ?_;refine WPi.seq ?_;refine WPi.yreg_k hc kd 6 17 (l.length-(n+1)) [iN (n:Int),.c (.v (.int .u32 l[n]))] rfl rfl rfl rfl (by rw[hL];exact nV _ _ aw) fun K1 K2 hK1 hK2=>?_;simp -dsimp only[go_sem,h0,h1,h3];refine aQ hg ?_;simp -dsimp only[go_sem,h0,h1,h3];refine⟨cJ hb1,rfl,?_⟩;refine⟨hK1 _ (cJ hb1) ?_,hK2 _ (cJ hb1) ?_⟩
  ·refine WPi.end_k hc kd fun K hK=>?_;simp -dsimp only[go_sem];refine hK _ _ (cJ hb1) ?_;refine WPi.end_k hc kd fun K hK=>?_;simp -dsimp only[go_sem,h3]
   repeat(refine And.intro aw ?_)
   refine hK _ _ (cJ hb1) ?_;refine⟨n,aw,_,rfl,h0,h1,aw,rfl,?_⟩;congr 1;omega
  ·refine WPi.end_k hc kd fun K hK=>?_;simp -dsimp only[go_sem];refine hK _ _ (cJ hb1) ?_;exact⟨.inr rfl,.inr rfl⟩
theorem oy {st:St} {H:List Nat} {t g off:Nat} (h:H.contains t=true) (hg:(st.b t).gen=g) (h0:0<g):rtA st H (.bp t g off) = .bp t 1 off:=by
 have h1:Nat.beq (st.b t).gen g=true:=by rw[hg];exact Nat.beq_refl g
 have h2:Nat.blt 0 g=true:=by rw[Nat.blt_eq];exact h0
 simp only[rtA,h,h1,h2,Bool.and_self,cond_true]
theorem rF {s:St} {τ:Nat->AV} {β:Nat->BX} {ε:Nat->EN} {π:Nat->MP} (h:s=⟨τ,β,ε,π⟩) (n:Nat):τ n=s.t n:=by rw[h]
theorem Cp {s:St} {τ:Nat->AV} {β:Nat->BX} {ε:Nat->EN} {π:Nat->MP} (h:s=⟨τ,β,ε,π⟩) (n:Nat):β n=s.b n:=by rw[h]
theorem Hg (v d:Int) (hd:0<=d/\d<4294967296):(or64 (v % 2147483647*4294967296 % 18446744073709551616) (d % 18446744073709551616)).tmod 2147483647=(d+4294967296*v) % 2147483647:=by
 have e1:v % 2147483647*4294967296 % 18446744073709551616=v % 2147483647*4294967296:=aw;have e2:d % 18446744073709551616=d:=aw;rw[e1,e2,pm aw hd,Int.tmod_eq_emod_of_nonneg aw];omega
theorem gV:jg:=by
 intro z hz;refine lg (fn:=Tryz.f246) av rfl rfl rfl av au av ?_;refine WPn.seq_k kd fun K hK _=>?_;simp -dsimp only[go_sem];refine hK _ ?_;refine WPn.seq_k kd fun K hK _=>?_;simp -dsimp only[go_sem];refine hK _ ?_;refine WPn.seq ?_;refine WPn.seq_k kd fun K hK _=>?_;simp -dsimp only[go_sem];refine nU [1000] rfl rfl rfl (Mq ((lb z).map bF)) au rfl ?_;rw[zQ];simp -dsimp only[go_sem];refine hK _ (WPn.block (WPn.rangeFunc (ts:=[(1000,1)]) [3] (fun k cs=>cs=[[C.v (.int .u64 (val ((lb z).drop ((lb z).length-k)) % 2147483647))]]) (fun _ _=>False) (by simp -dsimp only[go_sem]) (by simp -dsimp only[go_sem]) au rfl (Mp (lb z) aw) au (by simp -dsimp only[go_sem];decide) ?_ ?_ ?_ ?_ ?_))
 ·simp -dsimp only[go_sem];simp;rfl
 ·intro x hx;obtain⟨p,-,rfl⟩:=List.mem_map.1 hx;rfl
 ·rintro k x cs hx rfl -;have hk:k<(lb z).length:=by
   have:=(List.getElem?_eq_some_iff.1 hx).1;rwa [jA]at this
  have hx2:=nV (fun d:Int=>(.c (.v (.int .u32 d)):IV)) (lb z) (i:=(lb z).length-(k+1)) aw;rw[show(lb z).length-((lb z).length-(k+1)+1)=k by omega,hx]at hx2;cases hx2;generalize hs:bW _ _ _ _ _=s;obtain⟨τ,β,ε,π⟩:=s;have h10:τ 10 = .i (.c (.v (.int .u32 (lb z)[(lb z).length-(k+1)]))):=by
   rw[rF hs];simp -dsimp only[go_sem,bW,jd]
  have h3:τ 3 = .bp 3 1 0:=by
   rw[rF hs];simp -dsimp only[go_sem,bW,jd];rw[oy]<;>simp -dsimp only[go_sem]
  have b3:β 3=⟨1,[C.v (.int .u64 (val ((lb z).drop ((lb z).length-k)) % 2147483647))]⟩:=by
   rw[Cp hs];simp -dsimp only[go_sem,bW,eJ]
  clear hs;refine WP.end_k kd fun K hK=>?_;simp -dsimp only[go_sem,h10];refine hK _ _ ⟨rfl,?_⟩;refine WP.end_k kd fun K hK=>?_;simp -dsimp only[go_sem,h10,h3,b3];refine⟨aH,hK _ _ ⟨by simp -dsimp only[go_sem],?_⟩⟩;simp -dsimp only[go_sem];have hv:=cd (l:=lb z) (i:=(lb z).length-(k+1)) aw;rw[show(lb z).length-(k+1)+1=(lb z).length-k by omega]at hv;rw[Hg _ _ ((bU z).get aw),<-hv]
 ·rintro cs γs rfl-hγ;obtain⟨g,rfl⟩:=List.length_eq_one_iff.1 hγ;rw[jA,Nat.sub_self,List.drop_zero,bC];rw[iy,jl];refine WPn.end_k kd fun K hK=>?_;dsimp only[List.map,setB];have hm:=oB z;by_cases hz0:z<0
  ·have e1:decide (z<0)=true:=aF hz0;by_cases hr:(z.natAbs:Int) % 2147483647=0
   ·have e0:decide ((0:Int)<0)=false:=rfl;simp -dsimp only[go_sem,e1,hr,e0];refine hK _ _ ⟨.inr rfl,?_⟩;simp -dsimp only[go_sem];rw[iz,hm,show z % 2147483647=0 by omega]
   ·have e2:decide (0<(z.natAbs:Int) % 2147483647)=true:=aF aw;simp -dsimp only[go_sem,e1,e2];refine hK _ _ ⟨.inr rfl,?_⟩;simp -dsimp only[go_sem];rw[iz,hm,show(2147483647-(z.natAbs:Int) % 2147483647) % 18446744073709551616=z % 2147483647 by omega]
  ·have e1:decide (z<0)=false:=aG hz0;simp -dsimp only[go_sem,e1];refine hK _ _ ⟨.inr rfl,?_⟩;simp -dsimp only[go_sem];rw[iz,hm,show(z.natAbs:Int) % 2147483647=z % 2147483647 by omega]
 ·intro e cs γs _ h;exact h.elim
end Go.AM
namespace Go.AM
section
variable {P:Program} {kind:FuncId->CK} {st:St} {Q:bf->St->Prop} {K:St->Prop}
theorem WP.semAt (kind:FuncId->CK) {id:Nat} {ops:List Oper} (n:Nat) {o:Oper} (hn:ops[n]?=some o) (hg:o.guard=none) (hnd:∀ c,o.op ≠ .defer c)
  (h:WsF P kind ops (ops.take n) (fun s=>pR P o s (WsF P kind ops (ops.drop (n+1)) (Q .normal))) st):WP P (.region id ops.toArray false) Q st:=by
 intro ρ W0 M0 N G w a S hd;refine wpIn_region ?_;have hnl:n<ops.length:=(List.getElem?_eq_some_iff.1 hn).1;have hN:=dU hd;have hsz:List.range ops.toArray.size=List.range' 0 (ops.take n).length++n::List.range' (n+1) (ops.drop (n+1)).length:=by
  rw[List.range_eq_range',List.length_take,List.length_drop,List.size_toArray,Nat.min_eq_left aw];have e1:ops.length=n+(ops.length-n):=aw;have e2:ops.length-n=(ops.length-(n+1))+1:=aw
  conv=>lhs;rw[e1,<-List.range'_append_1,Nat.zero_add,e2,List.range'_succ]
 rw[hsz];refine l5 hN _ (ops.take n) 0 (fun i hi=>?_) S (dj (ops:=ops.toArray) h) ?_
 ·rw[List.length_take]at hi;rw[List.getElem?_take,if_pos aw];simp
 rintro a1 u1 ⟨s1,G1,hs,S1⟩;have hno:ops.toArray[n]?=some o:=by simpa using hn
 rw[wpOpsIn_cons];simp only[wpOpIn,hno];have hgd:gd ops.toArray s1 o=some true:=by simp[gd,hg]
 rw[gO S1 hgd];simp only[if_true];refine cn hnd (Oper.wp_mono ?_ (hs W0 M0 N G1 u1 a1 _ S1 (hN n o hno)));rintro a' w' ⟨st',G',hK,hS⟩;refine fC hN (ops.drop (n+1)) (n+1) (fun i=>by simp) hS (dj (ops:=ops.toArray) hK) ?_;rintro a2 u2 ⟨s2,G2,h2,S2⟩;exact⟨.normal,s2,G2,rfl,h2,S2⟩
theorem y6 {o:Oper} {T:TypeId} {x y:Operand} {te:TI} {z:List C} (ho:o.op = .makeSlice T x y) (hte:fh P T=some te) (hz:te.zero=some z) (hx:kV (st.ev x) 0) (hy:kV (st.ev y) 0) (hK:K (st.put o.dst (.fl []))):pR P o st K:=by
 intro W0 M0 N G w a Q S hd;obtain⟨e,ie,de,hT,hie,_,rfl⟩:=gA hte;dsimp only at hz;obtain⟨zv,hzv,rfl,hzr⟩:=oh hz;obtain⟨k1,hx⟩:=kh (S.ev x) hx;obtain⟨k2,hy⟩:=kh (S.ev y) hy;have hrun:=run_make (P:=P) w T e ie zv hT hie hzv k1 k2 0 0 aw aw aw aw;refine bE (y := .slice (some ⟨w.heap.size,0,none⟩) 0 0) (w':=w.alloc (.cells (madeCells zv.cells (0*ie.size)) e)) ?_ ?_
 ·replace hrun:(Instr.makeSlice T (.int k1 0) (.int k2 0)).run P w = .ok (.slice (some ⟨w.heap.size,0,none⟩) 0 0) (w.alloc (.cells (madeCells zv.cells (0*ie.size)) e)):=hrun
  simp[execOp,ho,hx,hy,hrun]
 ·exact⟨_,G,hK,S.put hd ((bq.refl _ _).alloc (ay _) _) fun _=>⟨_,0,rfl,rfl,.inl rfl⟩⟩
theorem zL {dst:Option Tmp} {x y:Operand} {T U:TypeId} {xs:List (List C)} {te:TI} (hx:st.ev x = .fl []) (hy:st.rows (st.ev y)=some xs) (hte:fh P T=some te)
  (hK:K (St.put st dst (sc (.int .i64 0)))):hO P kind none dst K st (.call ⟨.builtin .copy,#[x,y],#[T,U]⟩) ⟨⟩:=by
 refine⟨rfl,fun o ho hdst=>⟨by simp[eD,ho],?_⟩⟩;intro W0 M0 N G w a Q S hd;obtain⟨e,ie,de,hT,hie,_,rfl⟩:=gA hte;have hv:=S.ev x;rw[hx]at hv;obtain⟨q,len,hxv,hl,-⟩:=hv;simp only[List.length_nil]at hl;subst hl;obtain⟨p,cap,hyv,hcap,hyr⟩:=mM S (S.ev y) hy;have hexec:(execOp a.eval o).run P w = .ok (.value (goInt (Nat.min xs.length 0))) w:=by
  have e0:Nat.min xs.length 0=0:=Nat.min_zero _;rw[e0];have hf:(Builtin.firstCells ie.size 0 (.slice p xs.length cap)).run P w = .ok #[] w:=by
   cases p<;>simp[Builtin.firstCells,loadCells,loadCellsFrom]
  have hs:∀ ad:Addr,(storeCells ad []).run P w = .ok () w:=fun ad=>rfl;cases q<;>simp[execOp,ho,resolve,invoke,builtin,hxv,hyv,Builtin.copy_,run_underlying hT,Builtin.lenOf,sizeOf,typeInfo,hie,hf,hs]
 refine bE hexec ?_;refine⟨_,G,?_,S.put (v:=sc (.int .i64 0)) hd (bq.refl _ _) fun _=>?_⟩
 ·rw[hdst];exact hK
 ·have e0:Nat.min xs.length 0=0:=Nat.min_zero _;rw[e0];exact sY rfl
end
section
variable {P:Program} {kind:FuncId->CK} {st:St} {Q:bf->St->Prop}
theorem WP.any (kind:FuncId->CK) (hm:P.follows .mixedOrders=true) {id:Nat} {ops:List Oper} (J:(Nat->Bool)->St->Prop) (he:(List.range ops.length).all (fun i=>((ops[i]?).map fun o=>o.after.all fun e => !Region.binds .any e || decide (e.on<i)).getD true)=true)
  (h0:J (fun _=>false) st)
  (step:∀(F:Nat->Bool) (s:St) (i:Nat) (o:Oper),J F s->ops[i]?=some o->F i=false->dV ops F i->(∀ j,F j=true->dV ops F j) ->
   ∃ t,gd ops.toArray s o=some t/\(t=true->AOp P kind none o (fun s'=>J (fun j=>F j || j == i) s') s)/\(t=false->J (fun j=>F j || j == i) (s.put o.dst (.tup []))))
  (fin:∀ F s,J F s->(∀ j,j<ops.length->F j=true)->Q .normal s):WP P (.region id ops.toArray true) Q st:=by
 intro ρ W0 M0 N G w a S hd;have hN:=dU hd;refine wpIn_region_any hm ?_;have d1:∀ i o,ops[i]?=some o->∀ e∈o.after,Region.binds .any e=true->e.on<i:=by
  intro i o ho e hem hb;have hi:i<ops.length:=(List.getElem?_eq_some_iff.1 ho).1;have:=(List.all_eq_true.1 he) i (List.mem_range.2 hi);simp only[ho,Option.map_some,Option.getD_some,Array.all_eq_true_iff_forall_mem]at this;have:=this e hem;simp[hb]at this;exact this
 have hsize:ops.toArray.size=ops.length:=au;have hready:∀(listed:Array Bool),listed.size=ops.toArray.size->Region.ready .any ops.toArray listed=[]->∀ j,j<ops.toArray.size->listed.getD j false=true:=by
  intro listed hsz hr j
  induction j using Nat.strongRecOn with
  | _ j ih =>
   intro hj;cases hF:listed.getD j false with
   | true=>rfl
   | false =>
    exfalso;have:j∈Region.ready .any ops.toArray listed:=by
     refine mem_ready.2 ⟨?_,ops.toArray[j],au,?_⟩
     ·rw[Array.getD_eq_getD_getElem?]at hF ⊢;have h1:j<listed.size:=aw;simp only[Array.getElem?_eq_getElem h1,Option.getD_some]at hF ⊢;exact hF
     ·intro e hem hb;have hlt:=d1 j ops[j] au e (by simpa using hem) hb;exact ih e.on hlt aw
    rw[hr]at this;simp at this
 have main:∀(fuel:Nat) (listed:Array Bool) (a:Act) (w:World),listed.size=ops.toArray.size->(List.range ops.toArray.size).countP (fun j => !listed.getD j false)<=fuel ->
   (∀ j,listed.getD j false=true->dV ops (fun j=>listed.getD j false) j)->(∃ s G,J (fun j=>listed.getD j false) s/\Sim W0 M0 N s G w a) ->
   wpAnyIn (fen ρ) 0 P .any ops.toArray (fun e a' w'=>∃ x st' G',bz e=some x/\Q x st'/\Sim W0 M0 N st' G' w' a') fuel listed a w:=by
  intro fuel
  induction fuel with
  | zero =>
   intro listed a w hsz hc hcl ⟨s,G,hJ,S⟩;have hall:∀ j,j<ops.toArray.size->listed.getD j false=true:=by
    intro j hj;have h0:(List.range ops.toArray.size).countP (fun j => !listed.getD j false)=0:=aw;have:=(List.countP_eq_zero.1 h0) j (List.mem_range.2 hj);simpa using this
   refine⟨?_,⟨.normal,s,G,rfl,fin _ s hJ (fun j hj=>hall j aw),S⟩⟩;cases hr:Region.ready .any ops.toArray listed with
   | nil=>rfl
   | cons j l =>
    have hj:j∈Region.ready .any ops.toArray listed:=by rw[hr];simp
    obtain⟨h1,o,ho,_⟩:=mem_ready.1 hj;have hjs:j<ops.toArray.size:=(Array.getElem?_eq_some_iff.1 ho).1;have h2:=hall j hjs;rw[Array.getD_eq_getD_getElem?]at h1 h2;have h3:j<listed.size:=aw;simp only[Array.getElem?_eq_getElem h3,Option.getD_some]at h1 h2;rw[h1]at h2;simp at h2
  | succ fuel ih =>
   intro listed a w hsz hc hcl ⟨s,G,hJ,S⟩;refine⟨fun hr=>⟨.normal,s,G,rfl,fin _ s hJ (fun j hj=>hready listed hsz hr j aw),S⟩,?_⟩;intro i hi;obtain⟨h1,o,ho,hee⟩:=mem_ready.1 hi;have hlt:i<ops.toArray.size:=(Array.getElem?_eq_some_iff.1 ho).1;have h3:i<listed.size:=aw;have hFi:listed.getD i false=false:=by
    rw[Array.getD_eq_getD_getElem?]at h1 ⊢;simp only[Array.getElem?_eq_getElem h3,Option.getD_some]at h1 ⊢;exact h1
   have hei:dV ops (fun j=>listed.getD j false) i:=by
    intro o' ho' e he' hb;have:o'=o:=by
     have h4:ops[i]?=some o:=by simpa using ho
     rw[h4]at ho';exact(Option.some.inj ho').symm
    subst this;exact hee e he' hb
   have hF':(fun j=>(listed.setIfInBounds i true).getD j false)=fun j=>listed.getD j false || j == i:=by
    funext j;by_cases e:j=i
    ·subst e;simp[h3]
    ·rw[getD_set_ne false (Ne.symm e)];have:(j == i)=false:=by simp[e]
     simp[this]
   have hnext:∀ a' w',(∃ s G,J (fun j=>listed.getD j false || j == i) s/\Sim W0 M0 N s G w' a')->wpAnyIn (fen ρ) 0 P .any ops.toArray (fun e a' w'=>∃ x st' G',bz e=some x/\Q x st'/\Sim W0 M0 N st' G' w' a') fuel (listed.setIfInBounds i true) a' w':=by
    intro a' w' hI';refine ih _ a' w' (by simp at hsz ⊢;exact hsz) ?_ ?_ (by rw[hF'];exact hI')
    ·have:=nS (p:=fun j => !listed.getD j false) (q:=fun j => !(listed.setIfInBounds i true).getD j false) (i:=i) ?_ (by simp[hFi]) (by simp[h3]) (List.mem_range.2 hlt)
     ·omega
     ·intro j hj;cases hh:listed.getD j false with
      | false=>rfl
      | true=>rw[getD_set_true hh]at hj;simp at hj
    ·intro j hj o' ho' e he' hb;have hj':(listed.getD j false || j == i)=true:=by rw[<-congrFun hF' j];exact hj
     refine getD_set_true ?_;simp only[Bool.or_eq_true,beq_iff_eq]at hj';rcases hj' with hj'|hj'
     ·exact hcl j hj' o' ho' e he' hb
     ·subst hj';exact hei o' ho' e he' hb
   have hoi:ops[i]?=some o:=by simpa using ho
   obtain⟨t,hg,ht,hf⟩:=step _ s i o hJ hoi hFi hei hcl;simp only[wpOpIn,ho];rw[gO S hg];cases t with
   | true =>
    simp only[if_true];refine cn (oW (ht rfl)) (Oper.wp_mono ?_ (io (Q:=_) S (hN i o ho) (ht rfl)));rintro a' w' ⟨st',G',hK,hS⟩;exact hnext a' w' ⟨st',G',hK,hS⟩
   | false =>
    simp only[Bool.false_eq_true,if_false];exact⟨fun _ _=>trivial,hnext _ _ ⟨_,G,hf rfl,jH S (hN i o ho)⟩⟩
 refine main _ _ _ _ au ?_ ?_ ⟨st,G,?_,S.drew⟩
 ·exact ax List.countP_le_length au
 ·intro j hj;rw[ci]at hj;simp at hj
 ·have:(fun j=>(Array.replicate ops.toArray.size false).getD j false)=fun _=>false:=by
   funext j;exact ci _ _
  rw[this];exact h0
theorem Ev {K:St->Prop} {ops:List Oper} (hm:P.follows .mixedOrders=true) (J:(Nat->Bool)->St->Prop) (he:(List.range ops.length).all (fun i=>((ops[i]?).map fun o=>o.after.all fun e => !Region.binds .any e || decide (e.on<i)).getD true)=true)
  (h0:J (fun _=>false) st)
  (step:∀(F:Nat->Bool) (s:St) (i:Nat) (o:Oper),J F s->ops[i]?=some o->F i=false->dV ops F i->(∀ j,F j=true->dV ops F j)->o.guard=none/\W P kind none o.dst (fun s'=>J (fun j=>F j || j == i) s') s o.op)
  (fin:∀ F s,J F s->(∀ j,j<ops.length->F j=true)->K s):sC P kind ops K st ⟨⟩ :=
 .inr fun _ _ hQ=>WP.any kind hm J he h0 (fun F s i o h1 h2 h3 h4 h5=>by
  obtain⟨h6,h7⟩:=step F s i o h1 h2 h3 h4 h5;exact⟨true,by simp[gd,h6],fun _=>nW h7,fun h=>nomatch h⟩) fun F s h1 h2=>hQ s (fin F s h1 h2)
theorem WP.seq_kk {x y:Code} (kind:FuncId->CK) (h:∀ K:bf->St->Prop,(∀ s,WP P y Q s->K .normal s)->(∀ e s,e ≠ .normal->Q e s->K e s)->CW P kind x K st):WP P (.seq x y) Q st:=by
 refine WP.seq (bO x (h (jc (WP P y Q) Q) (fun _ h=>h) fun e s hne h=>?_));cases e with
 | normal=>exact(hne rfl).elim
 | exit id=>exact h
 | ret=>exact h
end
end Go.AM
namespace Go.AM
open Go.Proofs
open Classical
abbrev iW (n:Int):IV := .c (.v (.int .u64 n))
theorem EH (P:Program) (T:TypeId) (x y:Operand) (k':IntKind) (a:Int) (K:Value->Prop):eV P .and T x y (.int .u64 a) (.int k' 4294967295) K=(.u64=k'/\K (.int .u64 (a % 4294967296))):=by
 rw[sG,mv];refine congrArg (fun n=>(IntKind.u64=k'/\K (.int .u64 n))) ?_;show((BitVec.ofInt 64 a &&& BitVec.ofInt 64 4294967295).toNat:Int) % _=_;rw[BitVec.toNat_and,BitVec.toNat_ofInt,BitVec.toNat_ofInt];have e1:((4294967295:Int) % (2 ^ 64:Nat)).toNat=2 ^ 32-1:=aH;rw[e1,Nat.and_two_pow_sub_one_eq_mod];omega
attribute [go_sem ↓ 10000] EH
theorem JC (n:Nat) (h:n<4294967296):Fn Tryz.prog 145 [iW 1,iW n] [iW 0,iW n]:=by
 have e1:(n:Int) % 4294967296=n:=aw;have e2:(n:Int)/4294967296=0:=aw;have e3:(n:Int) % 18446744073709551616=n:=aw;refine aJ (fn:=Tryz.f145) ?_;simp -dsimp only[go_sem,e1,e2,e3,Int.reduceMod,Int.reduceDiv,Int.one_mul,Int.zero_mul,Int.mul_zero,Int.add_zero,Int.zero_add]
theorem u3 (n:Nat) (h:n<4294967296):Fn Tryz.prog 104 [iW 1,iW n] [iW 0,iW n]:=by
 refine aJ (fn:=Tryz.f104) ?_;simp -dsimp only[go_sem];refine aK (JC n h) ?_;simp -dsimp only[go_sem]
theorem xm:fh Tryz.prog 25=some ⟨true,2,48,some [C.lst [],C.lst []],none,none,[(0,42),(1,42)]⟩:=av
def Hj (τ0:Nat->AV) (β:Nat->BX) (ε0 ε1:Nat->EN) (π:Nat->MP) (vals:List AV) (v8 v8':AV) (F:Nat->Bool) (s:St):Prop :=
 (∀ i v,vals[i]?=some v->F i=true->s.t (38+i)=v)/\Kp [(8,8),(34,46)] τ0 s.t/\(F 9=false->s.t 8=v8)/\(F 9=true->s.t 8=v8')/\s.b=β/\s.p=π/\s.e=if F 7=true then ε1 else ε0
theorem vv {τ0:Nat->AV} {β:Nat->BX} {ε0 ε1:Nat->EN} {π:Nat->MP} {vals:List AV} {v8 v8':AV} {F:Nat->Bool} {τ:Nat->AV} {ε:Nat->EN} {ε':Nat->EN} {i:Nat} {v:AV} (h:Hj τ0 β ε0 ε1 π vals v8 v8' F ⟨τ,β,ε,π⟩)
  (hi:i<9) (hv:vals[i]?=some v) (hF9:F 9=false) (he:ε'=if(F 7 || 7 == i)=true then ε1 else ε0):Hj τ0 β ε0 ε1 π vals v8 v8' (fun j=>F j || j == i) ⟨upd τ (38+i) v,β,ε',π⟩:=by
 obtain⟨h1,h2,h3,h4,h5,h6,h7⟩:=h;refine⟨fun j u hj hF=>?_,?_,fun _=>?_,fun h=>?_,rfl,rfl,he⟩
 ·by_cases e:j=i
  ·subst e;rw[hv]at hj;cases hj;exact aN _ _ _
  ·have:(38+j)≠38+i:=aw;simp only[aS _ _ this];refine h1 j u hj ?_;have e':(j == i)=false:=by simp[e]
   simpa [e']using hF
 ·show Kp _ τ0 (upd τ (38+i) v);rw[tQ _ _ _ _ _ (by simp[inR];omega)];exact h2
 ·show upd τ (38+i) v 8=v8;rw[aS _ _ aw];exact h3 hF9
 ·have e':(9 == i)=false:=by simp;omega
  simp[e',hF9]at h
theorem fo {τ0:Nat->AV} {β:Nat->BX} {ε0 ε1:Nat->EN} {π:Nat->MP} {vals:List AV} {v8 v8':AV} {F:Nat->Bool} {τ:Nat->AV} {ε:Nat->EN} (i:Nat) {v:AV} (h:Hj τ0 β ε0 ε1 π vals v8 v8' F ⟨τ,β,ε,π⟩)
  (hi:i<9) (h7:i≠7) (hv:vals[i]?=some v) (hF9:F 9=false):Hj τ0 β ε0 ε1 π vals v8 v8' (fun j=>F j || j == i) ⟨upd τ (38+i) v,β,ε,π⟩ :=
 vv h hi hv hF9 (by
  have e:(7 == i)=false:=by simp;omega
  rw[e,Bool.or_false];exact h.2.2.2.2.2.2)
theorem v6 (r:List C) (hr:r.length=2) (n:Nat) (hn0:0<n) (hn:n<=1048576):FnM Tryz.prog 62 [.c (.lst [r]),iN n] 2 (List.replicate n r):=by
 have e1:decide ((n:Int)<0)=false:=aG aw;have e2:(n:Int) % 18446744073709551616=n:=aw;have e3:decide ((9223372036854775807:Int)<(n:Int))=false:=aG aw;refine qT kd (fn:=Tryz.f62) av rfl rfl rfl av au av ?_;simp -dsimp only[go_sem,e1,e2];refine ao (u3 n aw) rfl ?_;have e0:decide ((0:Int)<0)=false:=rfl;have e4:IntKind.wrap .i64 (n:Int)=n:=by
  simp only[IntKind.wrap,IntKind.bits,IntKind.signed,Bool.true_and,Nat.reduceSub,Int.reducePow];split<;>rename_i h4<;>simp only[decide_eq_true_eq,ge_iff_le]at h4<;>omega
 simp -dsimp only[go_sem,e0,e3,e4,Int.toNat_natCast]
 repeat(refine And.intro aw ?_)
 refine mB (t:=30) (g:=1) (len:=n) (xs:=[r]) rfl rfl aH rfl rfl xm rfl (by simpa using hr) ?_;have em:min [r].length n=1:=by simp;omega
 rw[em];simp -dsimp only[go_sem];refine br [(8,8),(34,46)] [] [(30,30)] (fun k τ β ε=>∃ m:Nat,k=n-m/\1<=m/\m<=n/\τ 8 = .i (iN m)/\ε 30=⟨1,2,List.replicate m r++List.replicate (n-m) [C.lst [],C.lst []],true,true⟩)
  (fun e τ β ε=>e = .exit 0/\ε 30=⟨1,2,List.replicate n r,true,true⟩) (n-1) ?_ ?_ ?_
 ·refine⟨1,?_,aw,aw,rfl,?_⟩
  ·rfl
  ·simp -dsimp only[go_sem];simp
 ·rintro k τ β ε π hK hKB hKE ⟨m,hk,hm1,hm,h8,h30⟩;have k7:τ 7 = .sl 30 1 n:=(hK 7 rfl).trans rfl;by_cases hlt:m<n
  ·have hA:(m:Int)<(n:Int):=aw;have hm0:¬ m=0:=aw;simp -dsimp only[go_sem,h8,k7,h30,hA];obtain⟨ε1,hε1⟩:∃ x:Nat->EN,x=upd ε 30 ⟨1,2,List.replicate (m+min m (n-m)) r++List.replicate (n-(m+min m (n-m))) [C.lst [],C.lst []],true,true⟩:=⟨_,rfl⟩;obtain⟨q,hq⟩:∃ q:Nat,q=min m (n-m):=⟨_,rfl⟩;obtain⟨vals,hvals⟩:∃ vals:List AV,vals=[.i (iN m),.sl 30 1 n,.i (iN m),.sub 30 1 m (n-m) 2,.sl 30 1 n,.i (iN m),.sl 30 1 m,.i (iN q),.i (iN ((m+q:Nat):Int))]:=⟨_,rfl⟩;refine Ev av (Hj τ β ε ε1 π vals (.i (iN m)) (.i (iN ((m+q:Nat):Int)))) aE ?_ ?_ ?_
   ·exact⟨fun _ _ _ h=>(nomatch h),(by repeat(first|exact Kp.refl _ _|refine Dr rfl ?_)),fun _=>h8,fun h=>(nomatch h),rfl,rfl,rfl⟩
   ·rintro F ⟨τ2,β2,ε2,π2⟩ i o hJ ho hFi hE hcl;obtain⟨h1,h2,h3,h4,h5,h6,h7⟩:=id hJ;dsimp only at h1 h2 h3 h4 h5 h6 h7;subst h5 h6;have h9:F 9=true->∀ i,i<9->F i=true:=fun h i hi=>by
     have hE9:=hcl 9 h _ rfl;obtain rfl|rfl|rfl|rfl|rfl|rfl|rfl|rfl|rfl:i=0\/i=1\/i=2\/i=3\/i=4\/i=5\/i=6\/i=7\/i=8:=aw
     all_goals exact hE9 ⟨_,.phase⟩ au rfl
    have k7':τ2 7 = .sl 30 1 n:=by rw[h2 7 aH];exact k7
    have hF9:i<9->F 9=false:=fun hi=>by
     cases h:F 9 with
     | false=>rfl
     | true=>rw[h9 h i hi]at hFi;cases hFi
    have e30:(ε2 30).gen=1/\(ε2 30).rs.length=n:=by
     rw[h7];split
     ·rw[hε1,aN];exact⟨rfl,ar⟩
     ·rw[h30];exact⟨rfl,ar⟩
    match i,ho with
    | 0,ho =>
     cases ho;refine⟨rfl,?_⟩;simp -dsimp only[go_sem,h3 (hF9 aw)];exact fo 0 hJ aH aH (by rw[hvals];rfl) (hF9 aw)
    | 1,ho =>
     cases ho;refine⟨rfl,?_⟩;simp -dsimp only[go_sem,k7'];exact fo 1 hJ aH aH (by rw[hvals];rfl) (hF9 aw)
    | 2,ho =>
     cases ho;refine⟨rfl,?_⟩;simp -dsimp only[go_sem,h3 (hF9 aw)];exact fo 2 hJ aH aH (by rw[hvals];rfl) (hF9 aw)
    | 3,ho =>
     cases ho;have t39:τ2 39 = .sl 30 1 n:=h1 1 _ (by rw[hvals];rfl) (hE _ rfl ⟨1,.data⟩ au rfl);have t40:τ2 40 = .i (iN m):=h1 2 _ (by rw[hvals];rfl) (hE _ rfl ⟨2,.data⟩ au rfl);refine⟨rfl,?_⟩;simp -dsimp only[go_sem,t39,t40,hm0,e30.1,Int.toNat_natCast];exact⟨hm,hlt,fo 3 hJ aH aH (by rw[hvals];rfl) (hF9 aw)⟩
    | 4,ho =>
     cases ho;refine⟨rfl,?_⟩;simp -dsimp only[go_sem,k7'];exact fo 4 hJ aH aH (by rw[hvals];rfl) (hF9 aw)
    | 5,ho =>
     cases ho;refine⟨rfl,?_⟩;simp -dsimp only[go_sem,h3 (hF9 aw)];exact fo 5 hJ aH aH (by rw[hvals];rfl) (hF9 aw)
    | 6,ho =>
     cases ho;have t42:τ2 42 = .sl 30 1 n:=h1 4 _ (by rw[hvals];rfl) (hE _ rfl ⟨4,.data⟩ au rfl);have t43:τ2 43 = .i (iN m):=h1 5 _ (by rw[hvals];rfl) (hE _ rfl ⟨5,.data⟩ au rfl);refine⟨rfl,?_⟩;simp -dsimp only[go_sem,t42,t43,e30.1,Int.toNat_natCast];exact⟨hm,fo 6 hJ aH aH (by rw[hvals];rfl) (hF9 aw)⟩
    | 7,ho =>
     cases ho;have t41:τ2 41 = .sub 30 1 m (n-m) 2:=h1 3 _ (by rw[hvals];rfl) (hE _ rfl ⟨3,.data⟩ au rfl);have t44:τ2 44 = .sl 30 1 m:=h1 6 _ (by rw[hvals];rfl) (hE _ rfl ⟨6,.data⟩ au rfl);rw[hFi]at h7;simp only[Bool.false_eq_true,if_false]at h7;subst h7;refine⟨rfl,?_⟩;simp -dsimp only[go_sem];have hxs:(List.replicate m r++List.replicate (n-m) [C.lst [],C.lst []]).take m=List.replicate m r:=by
      rw[List.take_left' au]
     refine zK (t:=30) (g:=1) (lo:=m) (len:=n-m) (sz:=2) (xs:=List.replicate m r) (by simp -dsimp only[go_sem,t41]) (by simp -dsimp only[go_sem,h30]) aH (by simp -dsimp only[go_sem,h30]) (by simp -dsimp only[go_sem,t44,h30];rw[hxs]) xm (by simp -dsimp only[go_sem,h30]) (by simp -dsimp only[go_sem,h30]) (fun x hx=>by rw[List.eq_of_mem_replicate hx];exact hr) ?_ ?_ ?_
     ·simp -dsimp only[go_sem,h30];intro x hx;rcases List.mem_append.1 hx with hx|hx
      ·rw[List.eq_of_mem_replicate hx];exact hr
      ·rw[List.eq_of_mem_replicate hx];rfl
     ·simp -dsimp only[go_sem,h30];simp<;>omega
     ·simp -dsimp only[go_sem,h30];refine vv (i:=7) hJ aH ?_ (hF9 aw) ?_
      ·rw[hvals,List.length_replicate,hq];rfl
      ·have e7:(F 7 || 7 == 7)=true:=au;rw[if_pos e7,hε1,List.length_replicate,List.take_left' au,List.drop_append];congr 2;have e8:min (min m (n-m)) m=min m (n-m):=aw;have e9:m-(m+min m (n-m))=0:=aw;have e10:n-m-(m+min m (n-m)-m)=n-(m+min m (n-m)):=aw;simp only[List.take_replicate,List.drop_replicate,List.length_replicate,e8,e9,e10,List.replicate_zero,List.nil_append,List.replicate_append_replicate]
    | 8,ho =>
     cases ho;have t38:τ2 38 = .i (iN m):=h1 0 _ (by rw[hvals];rfl) (hE _ rfl ⟨0,.data⟩ au rfl);have t45:τ2 45 = .i (iN q):=h1 7 _ (by rw[hvals];rfl) (hE _ rfl ⟨7,.data⟩ au rfl);refine⟨rfl,?_⟩;simp -dsimp only[go_sem,t38,t45]
     repeat(refine And.intro aw ?_)
     exact fo 8 hJ aH aH (by rw[hvals];rfl) (hF9 aw)
    | 9,ho =>
     cases ho;have hall:∀ i,i<9->F i=true:=fun i hi=>by
      have hE9:=hE _ rfl;obtain rfl|rfl|rfl|rfl|rfl|rfl|rfl|rfl|rfl:i=0\/i=1\/i=2\/i=3\/i=4\/i=5\/i=6\/i=7\/i=8:=aw
      all_goals exact hE9 ⟨_,.phase⟩ au rfl
     have t46:τ2 46 = .i (iN ((m+q:Nat):Int)):=h1 8 _ (by rw[hvals];rfl) (hall 8 aw);refine⟨rfl,?_⟩;simp -dsimp only[go_sem,t46];refine⟨fun j u hj hF=>?_,?_,fun h=>?_,fun _=>?_,rfl,rfl,?_⟩
     ·have hj9:j<9:=by
       have:=(List.getElem?_eq_some_iff.1 hj).1;rw[hvals]at this;simpa using this
      show upd τ2 8 _ (38+j)=u;rw[aS _ _ aw];exact h1 j u hj (hall j hj9)
     ·show Kp _ τ (upd τ2 8 _);rw[tQ _ _ _ _ _ aH];exact h2
     ·simp at h
     ·show upd τ2 8 _ 8=_;exact aN _ _ _
     ·show ε2=_;rw[h7,if_pos (hall 7 aw),if_pos (by show(F 7 || 7 == 9)=true;rw[hall 7 aw];rfl)]
    | i+10,ho=>simp at ho
   ·rintro F ⟨τ2,β2,ε2,π2⟩ ⟨h1,h2,h3,h4,h5,h6,h7⟩ hall;dsimp only at h1 h2 h3 h4 h5 h6 h7;subst h5 h6;rw[hall 7 au]at h7;simp only[if_true]at h7;have t8:=h4 (hall 9 au);have k7':τ2 7 = .sl 30 1 n:=by rw[h2 7 aH];exact k7
    simp -dsimp only[go_sem];refine again (n-(m+q)) aw ⟨?_,hKB,?_,m+q,rfl,aw,aw,t8,?_⟩
    ·exact Kp.step h2 (fun _ h=>h) hK
    ·rw[h7,hε1,tQ _ _ _ _ _ aH];exact hKE
    ·rw[h7,hε1,aN,hq]
  ·have hA:¬ (m:Int)<(n:Int):=aw;obtain rfl:m=n:=aw;simp -dsimp only[go_sem,h8,k7,h30,hA];exact⟨(aA hK),hKB,hKE⟩
 ·rintro e τ β ε π hK hKB hKE ⟨rfl,h30⟩;have k7:τ 7 = .sl 30 1 n:=(hK 7 rfl).trans rfl;refine⟨_,bA.refl _,?_⟩;simp -dsimp only[go_sem,k7,h30];refine⟨30,1,by rw[List.length_replicate],aw,?_⟩;have e5:(!(List.replicate n r).isEmpty)=true:=by
   cases n with
   | zero=>omega
   | succ n=>rfl
  rw[h30,e5]
theorem Cu (r:List C):FnM Tryz.prog 62 [.c (.lst [r]),iN 0] 2 []:=by
 have e0:decide ((0:Int)<0)=false:=rfl;have e3:decide ((9223372036854775807:Int)<((0:Nat):Int))=false:=rfl;refine jD (P:=Tryz.prog) (fn:=Tryz.f62) av rfl av au av ?_;refine WP.seq_kk kd fun K hK _=>?_;simp -dsimp only[go_sem];refine hK _ ?_;refine WP.seq_kk kd fun K hK _=>?_;simp -dsimp only[go_sem,e0];refine hK _ ?_;refine WP.seq_kk kd fun K hK _=>?_;simp -dsimp only[go_sem];refine ao (u3 0 aw) rfl ?_;simp -dsimp only[go_sem];refine hK _ ?_;refine WP.seq_kk kd fun K hK _=>?_;simp -dsimp only[go_sem,e0,e3];refine hK _ ?_;refine WP.seq ?_;refine WP.semAt kd 2 rfl rfl (by intro c h;cases h) ?_;simp -dsimp only[go_sem];refine y6 rfl xm rfl ?_ ?_ ?_
 ·refine⟨.i64,?_⟩;simp -dsimp only[go_sem];rfl
 ·refine⟨.i64,?_⟩;simp -dsimp only[go_sem];rfl
 ·simp -dsimp only[go_sem];refine WP.end_k kd fun K hK=>?_;simp -dsimp only[go_sem];refine zL (xs:=[r]) rfl rfl xm ?_;simp -dsimp only[go_sem];refine be [(8,8),(34,46)] [] [] (fun k τ β ε=>k=0/\τ 8 = .i (iN 0)) (fun e τ β ε=>e = .exit 0) 0 ⟨rfl,rfl⟩ ?_ ?_
  ·rintro k τ β ε π hK hKB hKE ⟨rfl,h8⟩;have k7:τ 7 = .fl []:=(hK 7 rfl).trans rfl;have hA:decide ((0:Int)<((0:Nat):Int))=false:=rfl;simp -dsimp only[go_sem,h8,k7,hA];exact⟨(aA hK),hKB,hKE⟩
  ·rintro e τ β ε π hKp hKB hKE rfl;have k7:τ 7 = .fl []:=(hKp 7 rfl).trans rfl;simp -dsimp only[go_sem,k7];refine hK _ _ ⟨.inr rfl,4,rfl,.inl ⟨rfl,rfl⟩⟩
end Go.AM
namespace Alg
open Classical
section
variable {R:Type} [CR R]
noncomputable def aj (p:P R):List R:=(List.range (aa p)).map p.c
def ac (l:List R):P R:=⟨fun i=>l.getD i 0,l.length,fun i hi=>by simp[List.getD,List.getElem?_eq_none hi]⟩
theorem qv (l:List R) (i:Nat):(ac l).c i=l.getD i 0:=rfl
theorem aZ (p:P R):(aj p).length=aa p:=by simp[aj]
theorem fB (p:P R) {i:Nat} (h:i<(aj p).length):(aj p)[i]=p.c i:=by simp[aj]
theorem lW (p:P R) (i:Nat):(aj p).getD i 0=p.c i:=by
 rcases Nat.lt_or_ge i (aa p)with h|h
 ·simp[aj,List.getD,h]
 ·rw[aP h];simp[aj,List.getD,h]
theorem Ht (p:P R):ac (aj p)=p:=P.ext fun i=>lW p i
theorem pN:aj (0:P R)=[]:=by simp[aj,aM.2]
theorem IX {p q:P R} (h:aj p=aj q):p=q:=by rw[<-Ht p,<-Ht q,h]
theorem nm {p:P R} {x:R} (h:x∈aj p):∃ i,i<aa p/\x=p.c i:=by
 simp only[aj,List.mem_map,List.mem_range]at h;obtain⟨i,hi,rfl⟩:=h;exact⟨i,hi,rfl⟩
theorem MB (l:List R):aa (ac l)<=l.length:=cI fun i hi=>by simp[qv,List.getD,List.getElem?_eq_none hi]
theorem DN {l:List R} {p:P R} (h:∀ i (hi:i<l.length),l[i]=p.c i) (hz:∀ i,l.length<=i->p.c i=0) (hl:∀ h:l.length-1<l.length,l[l.length-1]≠0):l=aj p:=by
 have hs:aa p=l.length:=j8 hz fun h0=>by
  rw[<-h _ aw];exact hl aw
 refine List.ext_getElem (by rw[aZ,hs]) fun i h1 h2=>?_;rw[h i h1,fB]
theorem cl_C {a:R} (h:a≠0):aj (an a)=[a]:=(DN (l:=[a]) (p:=an a) (fun i hi=>by
 have:i=0:=by simpa using hi
 subst this;rfl) (fun i hi=>by cases i with|zero=>simp at hi|succ i=>rfl) (fun _=>h)).symm
def der (p:P R):P R:=⟨fun i=>nc (i+1)*p.c (i+1),by
 obtain⟨n,hn⟩:=p.fin;exact⟨n,fun i hi=>by rw[hn _ aw,mul_zero]⟩⟩
theorem jS (p:P R) (i:Nat):(der p).c i=nc (i+1)*p.c (i+1):=rfl
theorem Lt (p q:P R):der (p+q)=der p+der q:=P.ext fun i=>by rw[jS,cj,cj,jS,jS,mul_add]
theorem xt (p q:P R):der (p*q)=der p*q+p*der q:=P.ext fun n=>by
 rw[jS,cj,hZ,<-rP];have e1:tri (fun i j=>nc (n+1)*(p.c i*q.c j)) (n+1)=tri (fun i j=>nc i*p.c i*q.c j) (n+1)+tri (fun i j=>p.c i*(nc j*q.c j)) (n+1):=by
  rw[<-wM];refine d6 fun i j e=>?_;rw[<-e,qz];exact ring [nc i,nc j,p.c i,q.c j]
 rw[e1];congr 1
 ·show nc 0*p.c 0*q.c (n+1)+tri (fun i j=>nc (i+1)*p.c (i+1)*q.c j) n=_;rw[show(nc 0:R)=0 from rfl,zero_mul,zero_mul,zero_add];rfl
 ·rw[yt];show _+p.c (n+1)*(nc 0*q.c 0)=_;rw[show(nc 0:R)=0 from rfl,zero_mul,mul_zero,add_zero];rfl
theorem Qg (a:R):der (an a)=0:=P.ext fun i=>by rw[jS,gS,mul_zero];rfl
theorem xr (p:P R):aa (der p)<=aa p-1:=cI fun i hi=>by rw[jS,aP aw,mul_zero]
theorem Ls (p:P R):der (-p) = -der p:=P.ext fun i=>by rw[jS,vU,vU,jS,mul_neg]
theorem Lr (p q:P R):der (p-q)=der p-der q:=by rw[sub_eq,Lt,Ls,sub_eq]
theorem Qf:der (ak:P R)=1:=P.ext fun i=>by
 rw[jS,ak,ce];cases i with
 | zero=>simp only[nc,zero_add,mul_one,if_true];rfl
 | succ i=>rw[if_neg aw,mul_zero];rfl
end
section
variable {F:Type} [CR F] [Fd F]
theorem B6 (b:P F) (hb:b≠0):∀(n:Nat) (a:P F),aa a<=n->∃ q r:P F,a=q*b+r/\aa r<aa b:=by
 intro n
 induction n with
 | zero=>exact fun a h=>⟨0,a,by rw[zero_mul,zero_add],by have:=aV hb;omega⟩
 | succ n ih =>
  intro a h;rcases Nat.lt_or_ge (aa a) (aa b)with h1|h1
  ·exact⟨0,a,by rw[zero_mul,zero_add],h1⟩
  ·have hb0:=aV hb;have hlow:aa (a-mon (aa a-aa b) (lc a*inv (lc b))*b)<=n:=cI fun i hi=>by
    rw[jf,cy,if_pos aw];by_cases e:i=aa a-1
    ·subst e;rw[show aa a-1-(aa a-aa b)=aa b-1 by omega];show lc a-lc a*inv (lc b)*lc b=0;rw[mul_assoc,cV (bP hb),mul_one,sub_self]
    ·rw[aP (by omega:aa a<=i),aP (p:=b) aw,mul_zero,sub_self]
   obtain⟨q,r,e1,e2⟩:=ih _ hlow;refine⟨q+mon (aa a-aa b) (lc a*inv (lc b)),r,?_,e2⟩;exact lc1 1 e1 (ring [a,mon (aa a-aa b) (lc a*inv (lc b)),b,q,r])
theorem IP {b q r q' r':P F} (h:q*b+r=q'*b+r') (hr:aa r<aa b) (hr':aa r'<aa b):q=q'/\r=r':=by
 have e:(q-q')*b=r'-r:=lc1 (1:P F) h (ring [q,q',b,r,r']);have hq:q=q':=Classical.byContradiction fun hne=>by
  have h1:q-q'≠0:=fun e=>hne (fM e);have hb:b≠0:=fun e=>by rw[e,aM.2 rfl]at hr;omega
  have h2:=dy h1 hb;have h3:=aV h1;rw[e]at h2;have h4:=fH (p:=r') (q:=r) (n:=aa b-1) aw aw;omega
 subst hq;exact⟨rfl,gj h⟩
noncomputable def qu (a b:P F):P F:=if h:b≠0 then choose (B6 b h (aa a) a (ay _))else 0
noncomputable def ab (a b:P F):P F:=if h:b≠0 then choose (choose_spec (B6 b h (aa a) a (ay _)))else a
theorem qure {a b:P F} (h:b≠0):a=qu a b*b+ab a b/\aa (ab a b)<aa b:=by
 simp only[qu,ab,dif_pos h];exact choose_spec (choose_spec (B6 b h (aa a) a (ay _)))
theorem pf {a b q r:P F} (h:a=q*b+r) (hr:aa r<aa b):qu a b=q/\ab a b=r:=by
 have hb:b≠0:=fun e=>by rw[e,aM.2 rfl]at hr;omega
 obtain⟨h1,h2⟩:=qure (a:=a) hb;exact IP (h1.symm.trans h) h2 hr
theorem N9 {a b g:P F} (h:b≠0):IsG g b (ab a b)↔IsG g a b:=by
 obtain⟨h1,-⟩:=qure (a:=a) h;have e:ab a b=a-qu a b*b:=lc1 (-1) h1 (ring [a,qu a b,b,ab a b]);constructor
 ·rintro ⟨k1,k2,k3⟩;refine⟨?_,k1,fun d d1 d2=>k3 d d2 ?_⟩
  ·rw[h1];exact(k1.mul_left _).add k2
  ·rw[e];exact d1.sub (d2.mul_left _)
 ·rintro ⟨k1,k2,k3⟩;refine⟨k2,?_,fun d d1 d2=>k3 d ?_ d1⟩
  ·rw[e];exact k1.sub (k2.mul_left _)
  ·rw[h1];exact(d1.mul_left _).add d2
end
section
variable {F:Type} [CR F] [Fd F]
noncomputable def mn (p:P F):P F:=an (inv (lc p))*p
theorem lI:mn (0:P F)=0:=mul_zero _
theorem PY {p:P F} (h:p≠0):lc (mn p)=1:=by rw[mn,gM,oD,cV (bP h)]
theorem pt {p:P F} (h:lc p=1):mn p=p:=by rw[mn,h,Du,cu,one_mul]
theorem PT (p:P F):mn (mn p)=mn p:=by
 by_cases h:p=0
 ·rw[h,lI,lI]
 ·exact pt (PY h)
theorem HU (p:P F):aa (mn p)=aa p:=by
 by_cases h:p=0
 ·rw[h,lI]
 ·exact bX (ft (bP h)) p
theorem NW (p q:P F):mn (p*q)=mn p*mn q:=by
 rw[mn,gM,tV,bH,mn,mn];exact ring [an (inv (lc p)),an (inv (lc q)),p,q]
theorem y3 {c:F} (h:c≠0) (p:P F):mn (an c*p)=mn p:=by
 rw[NW,mn,oD,<-bH,cV h,cu,one_mul]
theorem Qe (p:P F):Dv p (mn p):=(Dv.refl p).mul_left _
theorem MH (p:P F):Dv (mn p) p:=by
 by_cases h:p=0
 ·rw[h,lI];exact Dv.refl _
 ·refine⟨an (lc p),?_⟩;rw[mn,mul_comm,<-mul_assoc,<-bH,mul_inv (bP h),cu,one_mul]
theorem zC {a b:P F} (h:Dv a b) (h':Dv b a):mn a=mn b:=by
 obtain⟨c,rfl⟩:=h;by_cases ha:a=0
 ·rw[ha,zero_mul]
 ·obtain⟨d,hd⟩:=h';have e:c*d=1:=cA ha (by rw[<-mul_assoc,<-hd,mul_one]);have hc:c≠0:=fun e'=>by rw[e',zero_mul]at e;exact one_ne e.symm
  have hd':d≠0:=fun e'=>by rw[e',mul_zero]at e;exact one_ne e.symm
  have hs:=dy hc hd';have h1:aa (1:P F)=1:=jm one_ne;have:=aV hc;have:=aV hd';rw[e,h1]at hs;have hcC:=fI (p:=c) aw;have hc0:c.c 0≠0:=fun e'=>hc (by rw[hcC,e',cS]);rw[hcC,mul_comm,y3 hc0]
theorem Oa {g a b:P F} (h:IsG g a b):IsG (mn g) a b:=⟨(MH g).trans h.1,(MH g).trans h.2.1,fun d h1 h2=>(h.2.2 d h1 h2).trans (Qe g)⟩
noncomputable def ai (a b:P F):P F:=mn (choose (rM.ex a b))
theorem se (a b:P F):IsG (ai a b) a b:=Oa (choose_spec (rM.ex a b))
theorem MG (a b:P F):mn (ai a b)=ai a b:=PT _
theorem rZ {g a b:P F} (h:IsG g a b):mn g=ai a b:=by
 rw[<-MG];exact zC ((se a b).2.2 g h.1 h.2.1) (h.2.2 _ (se a b).1 (se a b).2.1)
theorem pF (a:P F):ai a 0=mn a:=(rZ ⟨Dv.refl a,Dv.zero a,fun _ h _=>h⟩).symm
theorem Is {a b:P F} (h:b≠0):ai b (ab a b)=ai a b:=by
 rw[<-rZ ((N9 (a:=a) h).1 (se b (ab a b))),MG]
noncomputable def eu (a b:P F):List (P F×P F):=if _h:b=0 then[]else(a,b)::eu b (ab a b)
termination_by aa b
decreasing_by exact(qure _h).2
theorem jo (a:P F):eu a 0=[]:=by rw[eu,dif_pos rfl]
theorem kk {a b:P F} (h:b≠0):eu a b=(a,b)::eu b (ab a b):=by rw[eu,dif_neg h]
noncomputable def euL (a b:P F):P F:=(((eu a b).getLast?).map (·.2)).getD a
theorem nf (a:P F):euL a 0=a:=by rw[euL,jo];rfl
theorem pH {a b:P F} (h:b≠0):euL a b=euL b (ab a b):=by
 rw[euL,euL,kk h,List.getLast?_cons];cases (eu b (ab a b)).getLast?<;>rfl
theorem Ok (n:Nat):∀(a b:P F),aa b<=n->mn (euL a b)=ai a b:=by
 induction n with
 | zero =>
  intro a b h;have hb:b=0:=aM.1 aw;rw[hb,nf,pF]
 | succ n ih =>
  intro a b h;by_cases hb:b=0
  ·rw[hb,nf,pF]
  ·rw[pH hb,ih _ _ (by have:=(qure (a:=a) hb).2;omega),Is hb]
end
end Alg
namespace Go.AM
open Alg
open Go.Proofs
open Classical
abbrev KP:=Alg.P KQ
noncomputable abbrev ku (p:KP):IV:=kl (aj p)
def PW (w:Nat) (p:KP):Prop:=∀ i,FB w (p.c i)
theorem fN (w:Nat):FB w 0:=by
 refine⟨0,1,fV (R:=Int) aH,?_,?_,?_,?_,?_⟩
 ·rw[cX,o7];rfl
 ·rw[aM.2 rfl];omega
 ·rw[iu];exact Nat.zero_le _
 ·rw[show aa (1:Alg.P Int)=1 from jm (R:=Int) aH];omega
 ·rw[gz (n:=1) (by rw[show aa (1:Alg.P Int)=1 from jm (R:=Int) aH];exact ay _)];show 0+Int.natAbs 1<=_;exact Nat.one_le_two_pow
theorem iY {z:Int} {w:Nat} (h:z.natAbs<=2 ^ w):FB w (kn z):=by
 refine⟨an z,1,fV (R:=Int) aH,?_,?_,?_,?_,?_⟩
 ·rw[o9,o7];rfl
 ·have:aa (an z)<=1:=cI fun i hi=>by cases i with|zero=>omega|succ i=>rfl
  omega
 ·rw[gz (n:=1) (cI fun i hi=>by cases i with|zero=>omega|succ i=>rfl)]
  show 0+Int.natAbs z<=_;omega
 ·rw[show aa (1:Alg.P Int)=1 from jm (R:=Int) aH];omega
 ·rw[gz (n:=1) (by rw[show aa (1:Alg.P Int)=1 from jm (R:=Int) aH];exact ay _)];show 0+Int.natAbs 1<=_;exact Nat.one_le_two_pow
theorem fi:kn 0=0:=by show Alg.em (an (0:Rat))=0;rw[show an (0:Rat)=0 from cS];rfl
theorem ff:kn 1=1:=rfl
theorem N3 (a b:Int):kn (a+b)=kn a+kn b:=by
 show Alg.em (an (((a+b:Int)):Rat))=_;rw[Rat.intCast_add,show an ((a:Rat)+(b:Rat))=an (a:Rat)+an (b:Rat)from Ec _ _,ul]
theorem Ig (a:Int):kn (-a) = -kn a:=by
 show Alg.em (an (((-a:Int)):Rat))=_;rw[Rat.intCast_neg,show an (-(a:Rat)) = -an (a:Rat)from lh _,B3]
theorem Ds (n:Nat):kn (n:Int)=Alg.nc n:=by
 induction n with
 | zero=>exact fi
 | succ n ih =>
  rw[show((n+1:Nat):Int)=(n:Int)+1 by omega,N3,ih,ff];rfl
theorem zf {z:Int} (h:z≠0):kn z≠0:=DG (fV (R:=Rat) (by simpa using h))
theorem PW.mono {w v:Nat} {p:KP} (h:PW w p) (hv:w<=v):PW v p:=fun i=>(h i).mono hv
theorem PW.add {w v:Nat} {p q:KP} (h:PW w p) (h':PW v q):PW (w+v+1) (p+q):=fun i=>(h i).add (h' i)
theorem PW.sub {w v:Nat} {p q:KP} (h:PW w p) (h':PW v q):PW (w+v+1) (p-q):=fun i=>(h i).sub (h' i)
theorem PW.scale {w v:Nat} {p:KP} {c:KQ} (h:PW w p) (h':FB v c):PW (w+v) (p*an c):=fun i=>by rw[nJ];exact(h i).mul h'
theorem PW.fw {w:Nat} {p:KP} (h:PW w p) (hw:w<=1000):∀ f∈aj p,FW f:=fun f hf=>by
 obtain⟨i,-,rfl⟩:=nm hf;exact(h i).mono hw
theorem fX (l:List KQ):dF l=aj (ac l):=by
 have hs:=MB l;have hg:∀ j (h:j<l.length),(ac l).c j=l[j]:=fun j h=>by simp[qv,List.getD,h]
 rw[ig hs (fun j hj h=>by rw[<-hg j hj];exact aP h) (fun h h0=>by rw[<-hg _ h];exact j7 aw)];refine List.ext_getElem (by simp[aj,hs]) fun i h1 h2=>?_;simp only[List.length_take]at h1;rw[fB,hg i aw,List.getElem_take]
theorem DT (p q:KP):zZ (aj p) (aj q)=aj (p+q):=by
 have key:∀ p q:KP,aa q<=aa p->ac (kC (aj p) (aj q) (aj q).length)=p+q:=fun p q h=>Alg.P.ext fun j=>by
  rw[qv,cj];rcases Nat.lt_or_ge j (aa p)with hj|hj
  ·simp only[kC,List.getD_eq_getElem?_getD,List.getElem?_map,List.getElem?_range,aZ,hj,if_true,Option.map_some,Option.getD_some];simp only[<-List.getD_eq_getElem?_getD,lW];split
   ·rfl
   ·rw[aP (p:=q) aw,add_zero]
  ·rw[aP hj,aP (p:=q) aw,add_zero,List.getD_eq_getElem?_getD,List.getElem?_eq_none (by simp[kC,aZ,hj])];rfl
 rw[zZ];split
 ·rename_i h;simp only[aZ]at h;have:=key q p aw;rw[fX,this,add_comm]
 ·rename_i h;simp only[aZ]at h;have:=key p q aw;rw[fX,this]
theorem kL (p:KP) (c:KQ):dF ((aj p).map (· * c))=aj (p*an c):=by
 rw[fX];congr 1;refine Alg.P.ext fun i=>?_;rw[qv,nJ,<-lW p i];simp only[List.getD_eq_getElem?_getD,List.getElem?_map];cases (aj p)[i]? with
 | none=>exact(zero_mul _).symm
 | some x=>rfl
theorem D7 {p:KP} {c:KQ} {w v:Nat} (hp:PW w p) (hc:FB v c) (hb:w+v<=1000) (hs:aa p<=1000):Fn Tryz.prog 52 [ku p,iK c] [ku (p*an c)]:=by
 have:=qR gV (aj p) c (by rw[aZ];omega) (hp.fw aw) (hc.mono aw) (fun f hf=>by
  obtain⟨i,-,rfl⟩:=nm hf;exact((hp i).mul hc).mono hb)
 rwa [kL]at this
theorem Qy {p q:KP} {w v:Nat} (hp:PW w p) (hq:PW v q) (hb:w+v+1<=1000) (hs:aa p<=1000) (hs':aa q<=1000):Fn Tryz.prog 16 [ku p,ku q] [ku (p+q)]:=by
 have:=D9 gV (aj p) (aj q) (by rw[aZ];omega) (by rw[aZ];omega) (hp.fw aw) (hq.fw aw) (fun f hf g hg=>by
  obtain⟨i,-,rfl⟩:=nm hf;obtain⟨j,-,rfl⟩:=nm hg;exact((hp i).add (hq j)).mono hb)
 rwa [DT]at this
theorem jv (q:KP):q*an (kn (-1)) = -q:=by
 rw[show kn (-1) = -(1:KQ)from(Ig 1).trans (by rw[ff]),show an (-(1:KQ)) = -(1:KP)from lh _,mul_neg,mul_one]
theorem Au {p q:KP} {w v:Nat} (hp:PW w p) (hq:PW v q) (hb:w+v+1<=1000) (hs:aa p<=1000) (hs':aa q<=1000):Fn Tryz.prog 50 [ku p,ku q] [ku (p-q)]:=by
 have hn:PW v (-q):=fun i=>(hq i).neg;have:=L9 gV (aj p) (aj q) (by rw[aZ];omega) (by rw[aZ];omega) (hp.fw aw) (hq.fw aw) ((iY (w:=0) aH).mono aw)
  (fun f hf=>by
   obtain⟨i,-,rfl⟩:=nm hf;have:=hn i;rw[<-jv,nJ]at this;exact this.mono aw) (by
   rw[kL,jv];intro f hf g hg;obtain⟨i,-,rfl⟩:=nm hf;obtain⟨j,-,rfl⟩:=nm hg;exact((hp i).add (hn j)).mono hb) (by rw[kL,jv];exact hn.fw aw) (by rw[kL,jv,aZ,kt];omega)
 rw[kL,jv,DT,<-sub_eq]at this;exact this
theorem p8 {p:KP} {w:Nat} (hp:PW w p) (hb:2*w<=1000) (hs:aa p<=1000):Fn Tryz.prog 53 [ku p] [ku (mn p)]:=by
 by_cases h0:p=0
 ·have:=CD;have e:ku (0:KP)=kl []:=by show kl (aj 0)=_;rw[pN]
  rw[h0,lI,e];exact this
 ·have hp0:=aV h0;have hl:(aj p)[(aj p).length-1]'(by rw[aZ];omega)=lc p:=by rw[fB,aZ];rfl
  have hlw:FB w (Alg.inv (lc p)):=(hp _).inv (bP h0);have h1:(1:Nat)<=2 ^ 0:=ay _;have hc:kn 1*Alg.inv (lc p)=Alg.inv (lc p):=by rw[ff,one_mul]
  have:=Ge gV (aj p) (by rw[aZ];omega) (by rw[aZ];omega) (Alg.inv (lc p)) (by rw[hl,hc]) (by rw[hl];exact bP h0) (hp.fw aw) ((iY (w:=0) aH).mono aw) (hlw.mono aw) (fun f hf=>by
   obtain⟨i,-,rfl⟩:=nm hf;exact((hp i).mul hlw).mono aw)
  rw[kL,mul_comm]at this;exact this
theorem D8 {p q:KP} {w v:Nat} (hp:PW w p) (hq:PW v q) (hw:w<=1000) (hv:v<=1000) (hs:aa p<=1000):Fn Tryz.prog 55 [ku p,ku q] [iB (decide (p=q))]:=by
 have:=Gf (aj p) (aj q) (by rw[aZ];omega) (hp.fw hw) (hq.fw hv);have e:decide (aj p=aj q)=decide (p=q):=by rw[decide_eq_decide];exact⟨IX,fun h=>by rw[h]⟩
 rwa [e]at this
theorem Oo (p:KP):ng (aj p) (aj p).length=aj (der p):=by
 refine DN (fun i hi=>?_) (fun i hi=>?_) (fun h=>?_)
 ·simp only[ng,List.getElem_map,List.getElem_range,lW,jS,Ds]
 ·simp only[ng,az,List.length_range,aZ]at hi;rw[jS,aP aw,mul_zero]
 ·simp only[ng,az,List.length_range,aZ]at h;simp only[ng,List.getElem_map,List.getElem_range,lW,az,List.length_range,aZ];refine a7 (zf aw) ?_;rw[show aa p-1-1+1=aa p-1 by omega];exact j7 aw
theorem IQ {p:KP} {w:Nat} (hp:PW w p) (hs:aa p<=1000):PW (w+10) (der p):=fun i=>by
 rw[jS];rcases Nat.lt_or_ge (i+1) (aa p)with h|h
 ·have h1:FB 10 (kn ((i+1:Nat):Int)):=iY (by rw[Int.natAbs_natCast];omega);rw[<-Ds,Nat.add_comm w];exact h1.mul (hp _)
 ·rw[aP h,mul_zero];exact fN _
theorem xV {p:KP} {w:Nat} (hp:PW w p) (hb:w+10<=1000) (hs:aa p<=1000):Fn Tryz.prog 17 [ku p] [ku (der p)]:=by
 have:=JG gV (aj p) (by rw[aZ];omega) (hp.fw aw) (fun i hi=>(iY (w:=10) (by
  rw[aZ]at hi;rw[Int.natAbs_natCast];omega)).mono aw) (fun i hi=>by
  rw[fB];rw[aZ]at hi;have h1:FB 10 (kn (i:Int)):=iY (by rw[Int.natAbs_natCast];omega);exact(h1.mul (hp i)).mono aw)
 rwa [Oo]at this
noncomputable def tk (p:KP) (n:Nat):KP:=⟨fun j=>if j<n then p.c j else 0,n,fun i hi=>if_neg aw⟩
theorem ER (p:KP) (n j:Nat):(tk p n).c j=if j<n then p.c j else 0:=rfl
theorem lu (p:KP):tk p 0=0:=Alg.P.ext fun j=>by rw[ER,if_neg aw];rfl
theorem nG (p:KP) (n:Nat):tk p (n+1)=tk p n+mon n (p.c n):=Alg.P.ext fun j=>by
 rw[cj,ER,ER,ce];by_cases h:j=n
 ·subst h;rw[if_pos aw,if_neg aw,if_pos rfl,zero_add]
 ·rw[if_neg h,add_zero];by_cases h':j<n
  ·rw[if_pos aw,if_pos h']
  ·rw[if_neg aw,if_neg h']
theorem sM {p:KP} {n:Nat} (h:aa p<=n):tk p n=p:=Alg.P.ext fun j=>by
 rw[ER];split
 ·rfl
 ·exact(aP aw).symm
theorem Pa {p:KP} {w n:Nat} (h:PW w p):PW w (tk p n):=fun j=>by
 rw[ER];split
 ·exact h j
 ·exact fN w
noncomputable def pp (p q:KP) (i k:Nat):KP:=tk p i*q+mon i (p.c i)*tk q k
theorem Dc (p q:KP) (i k:Nat):pp p q i (k+1)=pp p q i k+mon (i+k) (p.c i*q.c k):=by
 rw[pp,pp,nG,mul_add,dS,add_assoc]
theorem Kv (p q:KP) (i:Nat):pp p q i (aa q)=pp p q (i+1) 0:=by
 rw[pp,pp,lu,mul_zero,add_zero,nG,add_mul,sM (ay _)]
theorem Ku (p q:KP):pp p q 0 0=0:=by rw[pp,lu,lu,zero_mul,mul_zero,add_zero]
theorem NT (p q:KP):pp p q (aa p) 0=p*q:=by rw[pp,lu,mul_zero,add_zero,sM (ay _)]
theorem vD {q:KP} {c:KQ} {w v i:Nat} (hc:FB w c) (hq:PW v q):PW (w+v) (mon i c*q):=fun j=>by
 rw[cy];split
 ·exact hc.mul (hq _)
 ·exact fN _
theorem CT {p q:KP} {w v:Nat} (hp:PW w p) (hq:PW v q):∀ i,PW (i*(w+v+1)) (tk p i*q)
 | 0=>fun j=>by rw[lu,zero_mul];exact fN _
 | i+1=>fun j=>by
  rw[nG,add_mul,cj,Nat.add_mul,Nat.one_mul,<-Nat.add_assoc];exact(CT hp hq i j).add (vD (hp i) hq j)
theorem PE {p q:KP} {w v:Nat} (hp:PW w p) (hq:PW v q) (i k:Nat):PW ((i+1)*(w+v+1)) (pp p q i k):=fun j=>by
 rw[pp,cj,Nat.add_mul,Nat.one_mul,<-Nat.add_assoc];exact(CT hp hq i j).add (vD (hp i) (Pa hq) j)
theorem MD {p q:KP} {w v:Nat} (hp:PW w p) (hq:PW v q):PW (aa p*(w+v+1)) (p*q):=by
 have:=CT hp hq (aa p);rwa [sM (ay _)]at this
noncomputable def dO (n:Nat) (p:KP):List KQ:=(List.range n).map p.c
theorem d8 (n:Nat) (p:KP):(dO n p).length=n:=by simp[dO]
theorem kN {n j:Nat} (p:KP) (h:j<n):(dO n p)[j]?=some (p.c j):=by simp[dO,h]
theorem yG {n j:Nat} (p:KP) (c:KQ):(dO n p).set j (p.c j+c)=dO n (p+mon j c):=by
 refine List.ext_getElem (by simp[dO]) fun i h1 h2=>?_;rw[List.getElem_set];simp only[dO,List.getElem_map,List.getElem_range,cj,ce];by_cases e:j=i
 ·subst e;rw[if_pos rfl,if_pos rfl]
 ·rw[if_neg e,if_neg (fun e'=>e e'.symm),add_zero]
theorem wX {n:Nat} {p:KP} (h:aa p=n):dO n p=aj p:=by rw[dO,aj,h]
set_option maxHeartbeats 1000000 in
theorem ww {p q:KP} {w v:Nat} (hp:PW w p) (hq:PW v q) (hb:aa p*(w+v+1)<=1000) (hs:aa p<=1000) (hs':aa q<=1000) (hw:w<=1000) (hv:v<=1000):Fn Tryz.prog 14 [ku p,ku q] [ku (p*q)]:=by
 by_cases h0:p=0\/q=0
 ·have e:p*q=0:=by rcases h0 with rfl|rfl;exact zero_mul _;exact mul_zero _
  have eku:ku (0:KP)=kl []:=by show kl (aj 0)=_;rw[pN]
  rw[e,eku];by_cases hp0:p=0
  ·have e1:decide (((0:Nat):Int)=0)=true:=rfl;rw[hp0,eku];refine aJ (fn:=Tryz.f14) ?_;simp -dsimp only[go_sem,az,e1];rfl
  ·have e2:decide ((aa p:Int)=0)=false:=aG (by have:=aV hp0;omega);have hq0:q=0:=h0.resolve_left hp0;have e1:decide (((0:Nat):Int)=0)=true:=rfl;rw[hq0,eku];refine aJ (fn:=Tryz.f14) ?_;simp -dsimp only[go_sem,az,aZ,e1,e2];rfl
 ·have hp0:p≠0:=fun h=>h0 (.inl h);have hq0:q≠0:=fun h=>h0 (.inr h);have sp:=aV hp0;have sq:=aV hq0;obtain⟨n,hn⟩:∃ n,n=aa p+aa q-1:=⟨_,rfl⟩;have e1:decide ((aa p:Int)=0)=false:=aG aw;have e2:decide ((aa q:Int)=0)=false:=aG aw;have en:((aa p+aa q:Nat):Int)-1=(n:Int):=aw;have hrep:=v6 (kr (kn 0)) rfl n aw aw;have erep:List.replicate n (kr (kn 0))=(dO n (pp p q 0 0)).map kr:=by
   rw[Ku,fi];refine List.ext_getElem (by simp[dO]) fun i h1 h2=>?_;simp[dO];rfl
  have eem:(!(List.map kr (dO n (pp p q 0 0))).isEmpty)=true:=by
   rw[dO];obtain⟨m,rfl⟩:∃ m,n=m+1:=⟨n-1,aw⟩;simp[List.range_succ]
  rw[erep]at hrep;refine aJ (fn:=Tryz.f14) ?_;simp -dsimp only[go_sem,az,aZ,e1,e2];refine aK (cx 0 aH) ?_;simp -dsimp only[go_sem,az,aZ,e1,e2,en]
  repeat(refine And.intro aw ?_)
  refine co hrep ?_;simp -dsimp only[go_sem,az,aZ,eem];refine br [(6,9),(29,57)] [(7,7),(9,9)] [(26,26)] (fun m τ β ε=>∃ i:Nat,m=aa p-i/\i<=aa p/\τ 29 = .i (iN i)/\ε 26=⟨1,2,(dO n (pp p q i 0)).map kr,true,true⟩)
   (fun e τ β ε=>e = .exit 0/\ε 26=⟨1,2,(dO n (p*q)).map kr,true,true⟩) (aa p) ?_ ?_ ?_
  ·exact⟨0,aw,aw,rfl,rfl⟩
  ·rintro m τ β ε π hK hKB hKE ⟨i,hm,hi,h29,h26⟩;have k28:τ 28 = .i (iN (aa p)):=by rw[hK 28 aH];simp -dsimp only[go_sem,az,aZ]
   have k27:τ 27 = .i (ku p):=(hK 27 rfl).trans rfl;have k5:τ 5 = .sl 26 1 n:=by rw[hK 5 aH];simp -dsimp only[go_sem,az,d8]
   have k1:τ 1 = .i (ku q):=(hK 1 rfl).trans rfl;by_cases hlt:i<aa p
   ·have hA:(i:Int)<(aa p:Int):=aw;have hg:(aj p)[i]?=some (p.c i):=by rw[aD (by rw[aZ];exact hlt),fB]
    simp -dsimp only[go_sem,h29,k28,k27,hA];refine aQ hg ?_;simp -dsimp only[go_sem,h29,k28,k27,hA,k1,az,aZ];refine be [(8,9),(36,56)] [(9,9)] [(26,26)] (fun m τ β ε=>∃ k:Nat,m=aa q-k/\k<=aa q/\τ 36 = .i (iN k)/\ε 26=⟨1,2,(dO n (pp p q i k)).map kr,true,true⟩)
     (fun e τ β ε=>e = .exit 2/\ε 26=⟨1,2,(dO n (pp p q (i+1) 0)).map kr,true,true⟩) (aa q) ?_ ?_ ?_
    ·exact⟨0,aw,aw,rfl,h26⟩
    ·rintro m2 τ2 β2 ε2 π2 hK2 hKB2 hKE2 ⟨k,hm2,hk,h36,h26'⟩;have q35:τ2 35 = .i (iN (aa q)):=by rw[hK2 35 aH];simp -dsimp only[go_sem,az,aZ]
     have q34:τ2 34 = .i (ku q):=by rw[hK2 34 aH];simp -dsimp only[go_sem,k1]
     have q5:τ2 5 = .sl 26 1 n:=(hK2 5 rfl).trans k5;have q6:τ2 6 = .i (iN i):=by rw[hK2 6 aH];simp -dsimp only[go_sem,h29]
     have q7:τ2 7 = .bp 7 ((β 7).gen+1) 0:=(hK2 7 rfl).trans rfl;have b7:β2 7=⟨(β 7).gen+1,kr (p.c i)⟩:=(hKB2 7 rfl).trans rfl;by_cases hlt2:k<aa q
     ·have hA2:(k:Int)<(aa q:Int):=aw;have hg2:(aj q)[k]?=some (q.c k):=by rw[aD (by rw[aZ];exact hlt2),fB]
      have eik:(i:Int)+(k:Int)=((i+k:Nat):Int):=aw;have hg3:=kN (n:=n) (j:=i+k) (pp p q i k) aw;have hW:=PE hp hq i k (i+k);have hW2:=PE hp hq i (k+1) (i+k);have hwv:w+v<=1000:=by
       have:=Nat.mul_le_mul_right (w+v+1) (show 1<=aa p by omega);omega
      have hle:(i+1)*(w+v+1)<=1000:=ax (Nat.mul_le_mul_right _ hlt) hb;simp -dsimp only[go_sem,h36,q35,q34,hA2];refine aQ hg2 ?_;simp -dsimp only[go_sem,h36,q35,q34,hA2];refine ap 15 [] false true ?_;simp -dsimp only[go_sem,h36,q35,q34,hA2,q5,q6,q7,b7,h26',eik]
      repeat(refine And.intro aw ?_)
      refine aQ hg3 ?_;simp -dsimp only[go_sem,h36,q35,q34,hA2,q5,q6,q7,b7,h26',eik];refine ao (j0 gV ((hp i).mono hw) ((hq k).mono hv) (((hp i).mul (hq k)).mono hwv)) rfl ?_;simp -dsimp only[go_sem,h36,q35,q34,hA2,q5,q6,q7,b7,h26',eik];have hsum:FW ((pp p q i k).c (i+k)+p.c i*q.c k):=by
       rw[Dc,cj,ce,if_pos rfl]at hW2;exact hW2.mono hle
      refine ao (Ay gV (hW.mono hle) (((hp i).mul (hq k)).mono hwv) hsum) rfl ?_;simp -dsimp only[go_sem,h36,q35,q34,hA2,q5,q6,q7,b7,h26',eik];refine⟨aw,aQ hg3 ?_⟩;simp -dsimp only[go_sem,h36]
      repeat(refine And.intro aw ?_)
      refine again (aa q-(k+1)) aw ⟨(aA hK2),(aA hKB2),(aA hKE2),k+1,rfl,aw,rfl,?_⟩;simp -dsimp only[go_sem,h26'];rw[Dc,<-yG,List.map_set];rfl
     ·have hA2:¬ (k:Int)<(aa q:Int):=aw;obtain rfl:k=aa q:=aw;simp -dsimp only[go_sem,h36,q35,hA2];exact⟨(aA hK2),hKB2,hKE2,by rw[h26',Kv]⟩
    ·rintro e τ2 β2 ε2 π2 hK2 hKB2 hKE2 ⟨rfl,h26'⟩;have q29:τ2 29 = .i (iN i):=(hK2 29 rfl).trans h29;have kO:=Kp.step2 hK hK2 (by intro n;simp[inR]<;>omega) (aA hK);have kB:=Kp.step2 hKB hKB2 (by intro n;simp[inR]<;>omega) (aA hKB);have kE:=Kp.step2 hKE hKE2 (by intro n;simp[inR]) hKE;simp -dsimp only[go_sem,q29]
     repeat(refine And.intro aw ?_)
     refine again (aa p-(i+1)) aw ⟨(aA kO),kB,kE,i+1,rfl,aw,rfl,h26'⟩
   ·have hA:¬ (i:Int)<(aa p:Int):=aw;obtain rfl:i=aa p:=aw;simp -dsimp only[go_sem,h29,k28,hA];exact⟨(aA hK),hKB,hKE,by rw[h26,NT]⟩
  ·rintro e τ β ε π hK hKB hKE ⟨rfl,h26⟩;have k5:τ 5 = .sl 26 1 n:=by rw[hK 5 aH];simp -dsimp only[go_sem,az,d8]
   refine⟨_,bA.freeze _ 26,?_⟩;simp -dsimp only[go_sem,k5,h26];have hsz:aa (p*q)=n:=by rw[dy hp0 hq0,hn]
   rw[List.take_of_length_le (by simp[d8]),wX hsz]
end Go.AM
