/- Lemmas, part 22 of 23. No condition. -/
import Derived.Test.YtcmfkhicjhliaaaGreatPZ320
import Derived.ProofKit
import Derived.Deep.Slices
import Derived.OpenShut
import Derived.Test.YtcmfkhicjhliaaaGreatRows
set_option maxRecDepth 65536
set_option linter.unusedSimpArgs false
set_option linter.unusedVariables false
set_option linter.unusedSectionVars false
namespace Go.AM
open Go.Deep
section
variable {H:Type} {enc:TypeId×Value->H} {P:Program} {w:World} {base:Nat} {spare:Nat->Bool} {held:Bool}
abbrev nob:Nat->Prop:=fun _=>False
theorem Jg {a:Addr} (h:a.spot=none) (n:Nat):a.add n=⟨a.block,a.off+n,none⟩:=by
 obtain⟨b,o,s⟩:=a;subst h;unfold Addr.add;by_cases hn:n=0
 ·subst hn;rfl
 ·simp[hn]
theorem E8 {a:Addr} {v:Value} (h:w.cell? a=some v):a.spot=none/\a.block<w.heap.size:=by
 unfold World.cell? at h;split at h
 ·rename_i hb;refine⟨?_,(Array.getElem?_eq_some_iff.1 hb).1⟩;cases hs:a.spot with
  | none=>rfl
  | some _=>simp[hs]at h
 ·simp at h
theorem tc {α:Type} [Inhabited α] {t e:TypeId} {fuel:Nat} {cs:List Value} {x:DataW H×List MemPlace} (F:α->List C) (ok:α->Prop) {n:Nat} (hn:0<n) (ht:P.underlying t=some (.slice e)) (hc:P.cellsOf e=n)
  (he:∀ fuel cs x,DataW.trod enc P w base spare held fuel e cs=some x->cs.length=n->∃ r:α,ok r/\(F r).length=n/\aY w nob (F r) cs)
  (h:DataW.trod enc P w base spare held fuel t cs=some x):∃ l:List α,(∀ r∈l,ok r)/\l.length<=maxLen/\∃ y,cs=[y]/\cv w nob (.lst (l.map F)) y:=by
 rcases open_slice ht h with⟨rfl,_⟩|⟨a,len,cap,m,k,D,Pl,rfl,hb,hl,hcap,hm,_,hx⟩
 ·refine⟨[],au,au,_,rfl,?_⟩;simp only[List.map_nil,cv];exact⟨none,0,0,rfl,rfl,ay _,.inl trivial⟩
 rw[hc]at hx;have hlm:len<=m:=by rw[hm];split<;>omega
 obtain⟨f,hf⟩:=choose_lt (α:=α) (n:=len) (p:=fun i r=>ok r/\(F r).length=n/\∃ cs',w.cells? base (a.add (i*n)) n=some cs'/\aY w nob (F r) cs') (fun i hi=>by
  obtain⟨cs',h1,h2⟩:=hx i aw;obtain⟨r,h3,h4,h5⟩:=he _ _ _ h2 (World.cells?_some h1).2.1;exact⟨r,h3,h4,cs',h1,h5⟩)
 refine⟨(List.range len).map f,fun r hr=>?_,ar,_,rfl,?_⟩
 ·obtain⟨i,hi,rfl⟩:=List.mem_map.1 hr;exact(hf i (List.mem_range.1 hi)).1
 simp only[cv];refine⟨some a,len,cap,rfl,au,hl,?_⟩;by_cases h0:len=0
 ·subst h0;exact .inl rfl
 ·right;have hs:a.spot=none/\a.block<w.heap.size:=by
   obtain⟨_,h2,cs',h1,_⟩:=hf 0 aw;obtain⟨_,h4,h5⟩:=World.cells?_some h1;have h6:=h5 0 hn;rw[aD aw]at h6;simp only[Nat.zero_mul,Addr.add,if_true]at h6;exact E8 h6
  refine⟨a.block,a.off,n,?_,hs.2,id,aS.of_get fun i r hi=>?_⟩
  ·obtain⟨b,o,s⟩:=a;obtain⟨rfl,_⟩:=hs;rfl
  ·rw[List.map_map,List.getElem?_map]at hi;by_cases hil:i<len
   ·rw[List.getElem?_range hil]at hi;simp only[Option.map_some,Option.some.injEq,Function.comp]at hi;subst hi;obtain⟨_,h2,cs',h1,h3⟩:=hf i hil;obtain⟨_,h4,h5⟩:=World.cells?_some h1;refine⟨h2,bt.of_reps h3 fun j hj=>?_⟩;rw[<-h5 j aw,add_add,Jg hs.1,Nat.add_assoc]
   ·rw[List.getElem?_eq_none ar]at hi;simp at hi
theorem aY.split {w:World} {M:Nat->Prop} {cs:List C} {ys:List Value} (n:Nat) {bs:List C} (h1:aY w M bs (ys.take n)) (h2:aY w M cs (ys.drop n)):aY w M (bs++cs) ys:=by
 have:=h1.append h2;rwa [List.take_append_drop]at this
end
theorem Bu {H:Type} {enc:TypeId×Value->H} {P:Program} {f:Func} {s:ChangeSpec} {fresh handsOn:Bool} {W W':World} {args:Array Value} {ds:List (DataW H)} {before:List MemPlace} {t:TypeId} (hl:laidOutB P=true)
  (hW:DataW.Whole enc P f.params.toList s.vars false W args.toList ds [] before) (hv:s.vars=[]) (hrt:f.resultTypes = #[t]) (ht:P.underlying t=some .bool) (hres:(s.fn H (ds++[])).results=[.lit (.bool true)])
  (hargs:(s.fn H (ds++[])).args=ds) (hvars:(s.fn H (ds++[])).vars=[]) (hrd:∀ t∈f.params.toList,P.readableRec t=true/\t<P.types.size) (hb:bq W.heap.size W W') :
  s.post enc P f false fresh handsOn false W args (.bool true) W':=by
 have hB:Go.RowKit.Below W.heap.size W W':=⟨hb.os,hb.tape,hb.output,hb.size,hb.block⟩;have hlt:=hW.lt;have hW':=hW;obtain⟨p,q,hA,hV,rfl,-,-⟩:=hW;refine⟨ds,[],_,[],p,[],hW',?_,?_,?_,hB.frame _,fun h=>by cases h⟩
 ·rw[hres,hrt];exact Go.ChangeShapes.trodAll_mk1 (Go.RowKit.shut_bool ht true)
 ·rw[hargs];have key:∀(ts:List TypeId) (vs:List Value) (ds:List (DataW H)) (ps:List MemPlace),(∀ t∈ts,P.readableRec t=true/\t<P.types.size)->(∀ x∈ps,x.block<W.heap.size)->DataW.TrodAll enc P W 0 (fun _=>true) true ts vs ds ps ->
    DataW.TrodAll enc P W' 0 (fun b=>decide (b<W.heap.size)) true ts vs ds ps:=by
   intro ts
   induction ts with
   | nil=>intro vs ds ps _ _ h;cases vs<;>cases ds<;>first|exact h|exact h.elim
   | cons t ts ih =>
    intro vs ds ps hr hx h;cases vs with
    | nil=>exact h.elim
    | cons v vs =>
     cases ds with
     | nil=>exact h.elim
     | cons d ds =>
      obtain⟨p,q,h1,h2,rfl⟩:=h;have hrt:=hr t au;exact⟨p,q,Go.RowKit.Below.trod hl hrt.1 hrt.2 h1 hB (fun x hx'=>hx x (by simp[hx'])),ih vs ds q (fun t ht=>hr t (by simp[ht])) (fun x hx'=>hx x (by simp[hx'])) h2,rfl⟩
  exact key _ _ _ _ hrd (fun x hx=>hlt x (by simp[hx])) hA
 ·rw[hvars,hv];rfl
end Go.AM
namespace Go.AM
open Go.Proofs
open Go.Deep Go.ChangeShapes Go.WideShapes Go.ChangeAt Go.RowKit
section
variable {H:Type} {enc:TypeId×Value->H} {w:World} {base:Nat} {spare:Nat->Bool} {held:Bool}
theorem Qb {cs:List Value} (h:cs.length=5):∃ c0 c1 c2 c3 c4,cs=[c0,c1,c2,c3,c4]:=by
 match cs,h with
 | [c0,c1,c2,c3,c4],_=>exact⟨c0,c1,c2,c3,c4,rfl⟩
theorem twoV {cs:List Value} (h:cs.length=2):∃ c0 c1,cs=[c0,c1]:=by
 match cs,h with
 | [c0,c1],_=>exact⟨c0,c1,rfl⟩
instance:Inhabited T5:=⟨⟨0,0,0,0,0⟩⟩
instance:Inhabited iS:=⟨⟨[],[]⟩⟩
theorem cells124:Tryz.prog.cellsOf 124=5:=by kernel_rfl
theorem cells97:Tryz.prog.cellsOf 97=1:=by kernel_rfl
theorem cells37:Tryz.prog.cellsOf 37=1:=by kernel_rfl
theorem cells39:Tryz.prog.cellsOf 39=2:=by kernel_rfl
theorem My {n:Int} (h:(Lit.int .i8 n).wf=true) : -128<=n/\n<128:=by
 have:=bounds_i8 h;omega
theorem rep5 {fuel:Nat} {cs:List Value} {x:DataW H×List MemPlace} (h:DataW.trod enc Tryz.prog w base spare held fuel 124 cs=some x):∃ t:T5,t.ok/\t.row.length=5/\aY w nob t.row cs:=by
 obtain⟨xs,m,-,-,hl,hx,he⟩:=DataW.trod_array Tryz.underlying124 h;rw[cells124]at hl;obtain⟨c0,c1,c2,c3,c4,rfl⟩:=Qb hl
 ·have key:∀ i,i<5->∃ n,(([c0,c1,c2,c3,c4]:List Value).drop (i*1)).take 1=[.int .i8 n]/\(Lit.int .i8 n).wf=true:=fun i hi=>by
   have h1:=he i hi;rw[aD aw,show Tryz.prog.cellsOf 97=1 from cells97]at h1;obtain⟨n,h2,_,h3⟩:=DataW.trod_int Tryz.underlying97 h1;exact⟨n,h2,h3⟩
  obtain⟨a,ha,wa⟩:=key 0 aw;obtain⟨b,hb,wb⟩:=key 1 aw;obtain⟨c,hc,wc⟩:=key 2 aw;obtain⟨d,hd,wd⟩:=key 3 aw;obtain⟨e,he5,we⟩:=key 4 aw;simp only[Nat.zero_mul,Nat.one_mul,Nat.reduceMul,aC,List.take_succ_cons,List.take_zero,List.cons.injEq,and_true]at ha hb hc hd he5;subst ha hb hc hd he5;refine⟨⟨a,b,c,d,e⟩,⟨My wa,My we⟩,rfl,?_⟩;simp only[T5.row,aY,cv,Value.oneCell',and_self]
theorem PH {fuel:Nat} {cs:List Value} {x:DataW H×List MemPlace} (h:DataW.trod enc Tryz.prog w base spare held fuel 39 cs=some x):∃ t:iS,t.ok/\t.row.length=2/\aY w nob t.row cs:=by
 obtain⟨y0,y1,n,-,hl,h0,h1⟩:=trod_struct2 Tryz.underlying39 h;rw[cells39]at hl;obtain⟨c0,c1,rfl⟩:=twoV hl
 ·simp only[cells37,aC,List.take_succ_cons,List.take_zero]at h0 h1;obtain⟨l0,k0,b0,v0,e0,r0⟩:=tc T5.row T5.ok aH Tryz.underlying37 cells124 (fun f cs x h _=>rep5 h) h0;obtain⟨l1,k1,b1,v1,e1,r1⟩:=tc T5.row T5.ok aH Tryz.underlying37 cells124 (fun f cs x h _=>rep5 h) h1;simp only[List.cons.injEq,and_true]at e0 e1;subst e0 e1;exact⟨⟨l0,l1⟩,⟨⟨b0,b1⟩,k0,k1⟩,rfl,r0,r1,trivial⟩
theorem PI {v:Value} {d:DataW H} {ps:List MemPlace} (hv:∃ a len cap,v = .slice a len cap) (h:DataW.Trod enc Tryz.prog w base spare held 22 v d ps):∃ l:List iS,OkL l/\iX w nob (rl l) v:=by
 obtain⟨a,len,cap,rfl⟩:=hv;obtain⟨fuel,hf⟩:=h;obtain⟨l,k,b,y,e,r⟩:=tc iS.row iS.ok aH Tryz.underlying22 cells39 (fun f cs x h _=>PH h) hf;have e':Value.slice a len cap=y:=by simpa [Value.cells]using e
 subst e';exact⟨l,⟨b,k⟩,r⟩
end
theorem own:ownKnob Tryz.prog.godebug=none:=by kernel_rfl
theorem K6:laidOutB Tryz.prog=true:=by kernel_rfl
theorem rd22:Tryz.prog.readableRec 22=true/\22<Tryz.prog.types.size:=⟨by kernel_rfl,of_decide_eq_true (by kernel_rfl)⟩
abbrev iT:IV := .c (.v (.bool true))
set_option maxRecDepth 100000 in
theorem Ig {f:FuncId} {fn:Func} {s:ChangeSpec} (hv:s.vars=[]) (hrt:fn.resultTypes = #[4]) (hrd:∀ t∈fn.params.toList,Tryz.prog.readableRec t=true/\t<Tryz.prog.types.size) {H:Type} {enc:TypeId×Value->H}
  (hc:∀(W:World) (base:Nat) (args:Array Value) (ds:List (DataW H)) (p:List MemPlace),(∀(j:Nat) t v,fn.params[j]?=some t->args[j]?=some v->Value.okWide Tryz.prog W .any base t v)->DataW.TrodAll enc Tryz.prog W 0 (fun _=>true) true fn.params.toList args.toList ds p ->
   (∃ ivs,Fn Tryz.prog f ivs [iT]/\cT W nob ivs args.toList)/\(s.fn H (ds++[])).results=[.lit (.bool true)]/\(s.fn H (ds++[])).args=ds/\(s.fn H (ds++[])).vars=[])
  (W:World) (base:Nat) (args:Array Value) (ds gs:List (DataW H)) (before:List MemPlace) (hval:∀(j:Nat) t v,fn.params[j]?=some t->args[j]?=some v->Value.okWide Tryz.prog W .any base t v)
  (hW:DataW.Whole enc Tryz.prog fn.params.toList s.vars false W args.toList ds gs before):Calls Tryz.prog f args W fun e W'=>∃ v,e = .returned v/\s.post enc Tryz.prog fn false true false false W args v W':=by
 have hW':=hW;obtain⟨p,q,hA,hV,rfl,-,-⟩:=hW;rw[hv]at hV;obtain⟨rfl,rfl⟩:=trodVars_none hV;obtain⟨⟨ivs,hf,hr⟩,h1,h2,h3⟩:=hc W base args ds p hval hA;have hcall:=hf.2 W nob args.toList (fun _ h=>h.elim) hr;rw[Array.toArray_toList]at hcall;refine hcall.mono ?_;rintro e W' ⟨y,rfl,hy,hB⟩;obtain⟨rfl,_⟩:y = .bool true/\_:=by simpa only[xJ,iX,cv]using hy
 exact⟨_,rfl,Bu K6 hW' hv hrt Tryz.underlying4 h1 h2 h3 hrd hB⟩
end Go.AM
namespace Go.AM
open Go.Proofs Go.Deep Go.ChangeShapes Go.WideShapes Go.ChangeAt Go.RowKit
set_option maxRecDepth 100000 in
theorem repS {H:Type} {enc:TypeId×Value->H} {w:World} {r:Reach} {b0 base:Nat} {spare:Nat->Bool} {held:Bool} {v:Value} {d:DataW H} {ps:List MemPlace} (hv:Value.okWide Tryz.prog w r b0 39 v) (h:DataW.Trod enc Tryz.prog w base spare held 39 v d ps) :
  ∃ x:iS,x.ok/\iX w nob (.g x.row) v:=by
 obtain⟨cs,rfl,-⟩:=okWide_struct Tryz.underlying39 hv;obtain⟨fuel,hf⟩:=h;obtain⟨x,hx,-,hr⟩:=PH hf;exact⟨x,hx,cs,rfl,hr⟩
theorem rd39:Tryz.prog.readableRec 39=true/\39<Tryz.prog.types.size:=⟨by kernel_rfl,of_decide_eq_true (by kernel_rfl)⟩
end Go.AM
