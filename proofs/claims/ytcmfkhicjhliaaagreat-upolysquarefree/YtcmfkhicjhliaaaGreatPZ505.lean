/- Lemmas, part 6 of 23. No condition. -/
import Derived.Test.YtcmfkhicjhliaaaGreatPZ504
import Derived.Maps.RangeRun
import Derived.ChangeKeysEq
import Derived.Test.YtcmfkhicjhliaaaGreatProg
import Derived.Shelf.SlSortCmp.NoneTotal
import Derived.Ground.SlsfProg
import Derived.WalkKit
set_option maxRecDepth 65536
set_option linter.unusedSimpArgs false
set_option linter.unusedVariables false
set_option linter.unusedSectionVars false
namespace Go.AM
structure Ex where
 a:Int
 b:Int
 c:Int
 d:Int
 deriving DecidableEq
def Ex.cs (e:Ex):List C:=[.v (.int .i64 e.a),.v (.int .i64 e.b),.v (.int .i64 e.c),.v (.int .i64 e.d)]
def Ex.v (e:Ex):Value := .agg #[.int .i64 e.a,.int .i64 e.b,.int .i64 e.c,.int .i64 e.d]
theorem Ex.reps {w:World} {M:Nat->Prop} {e:Ex} {ys:List Value} (h:aY w M e.cs ys):ys=[.int .i64 e.a,.int .i64 e.b,.int .i64 e.c,.int .i64 e.d]:=by
 match ys,h with
 | [a,b,c,d],⟨h1,h2,h3,h4,_⟩ =>
  simp only[cw]at h1 h2 h3 h4;rw[h1.1,h2.1,h3.1,h4.1]
theorem Ex.rep_v {w:World} {M:Nat->Prop} {e:Ex} {y:Value} (h:jc w M (.g e.cs) y):y=e.v:=by
 obtain⟨ys,rfl,h⟩:=h;have:=Ex.reps h;unfold Ex.v;congr;exact Array.toList_inj.1 this
structure ij (P:Program) (T K V I:TypeId) (z:Array Value):Prop where
 hu:P.underlying T=some (.map K V)
 hk:P.underlying K=some (.array 4 I)
 hI:P.underlying I=some (.int .i64)
 hi:∃ i,P.info? I=some i/\i.size=1
 hz:∀ w,(zeroValue V).run P w = .ok (.agg z) w
section
variable {P:Program} {T K V I:TypeId} {z:Array Value}
theorem ij.part (h:ij P T K V I z) {xs:Array Value} {k:Nat} {y:Value} (hk:xs[k]?=some y) (w:World):(Go.part I xs k).run P w = .ok y w:=by
 simp[Go.part,isAgg,run_underlying h.hI,hk]
theorem ij.eqI (h:ij P T K V I z) (a b:Int) (n:Nat) (w:World):(Op.equalIn (n+1) I (.int .i64 a) (.int .i64 b)).run P w = .ok (a == b) w:=by
 simp[Op.equalIn,run_underlying h.hI]
theorem ij.eq (h:ij P T K V I z) (e f:Ex) (w:World):(Op.equal K e.v f.v).run P w = .ok (decide (e=f)) w:=by
 obtain⟨i,hi,hs⟩:=h.hi;have hc:P.cellsOf I=1:=by simp[Program.cellsOf,hi,hs]
 unfold Op.equal Ex.v;rw[show Op.maxDepth=9999+1 from rfl,run_equalIn_array w 9999 _ _ h.hk hi,hc];have hr:List.range 4=[0,1,2,3]:=rfl;rw[hr];obtain⟨a,b,c,d⟩:=e;obtain⟨a',b',c',d'⟩:=f;simp only[Op.eqItems,Nat.mul_one,Sem.run_bind];rw[h.part (y := .int .i64 a) av,Result.andThen_ok,h.part (y := .int .i64 a') av,Result.andThen_ok,h.eqI,Result.andThen_ok];by_cases h1:a=a'
 ·subst h1;simp only[beq_self_eq_true,Bool.not_true,Bool.false_eq_true,if_false,Sem.run_bind];rw[h.part (y := .int .i64 b) av,Result.andThen_ok,h.part (y := .int .i64 b') av,Result.andThen_ok,h.eqI,Result.andThen_ok];by_cases h2:b=b'
  ·subst h2;simp only[beq_self_eq_true,Bool.not_true,Bool.false_eq_true,if_false,Sem.run_bind];rw[h.part (y := .int .i64 c) av,Result.andThen_ok,h.part (y := .int .i64 c') av,Result.andThen_ok,h.eqI,Result.andThen_ok];by_cases h3:c=c'
   ·subst h3;simp only[beq_self_eq_true,Bool.not_true,Bool.false_eq_true,if_false,Sem.run_bind];rw[h.part (y := .int .i64 d) av,Result.andThen_ok,h.part (y := .int .i64 d') av,Result.andThen_ok,h.eqI,Result.andThen_ok];by_cases h4:d=d'
    ·subst h4;simp
    ·simp[h4]
   ·simp[h3]
  ·simp[h2]
 ·simp[h1]
theorem ij.check' (h:ij P T K V I z) (em:Bool) (e:Ex) (n:Nat) (w:World):(Instr.checkKey em (n+1+1) K e.v).run P w = .ok () w:=by
 obtain⟨i,hi,hs⟩:=h.hi;have hI:∀(x:Int) (w:World),(Instr.checkKey em (n+1) I (.int .i64 x)).run P w = .ok () w:=fun x w=>by
  simp[Instr.checkKey,run_underlying h.hI]
 obtain⟨a,b,c,d⟩:=e;unfold Ex.v;rw[Instr.checkKey];simp only[Sem.run_bind,run_underlying h.hk,Result.andThen_ok];simp only[Std.Legacy.Range.forIn_eq_forIn_range',Std.Legacy.Range.size,Nat.sub_zero,Nat.add_one_sub_one,Nat.div_one];rw[show List.range' 0 4=[0,1,2,3]from rfl];have hc:P.cellsOf I=1:=by simp[Program.cellsOf,hi,hs]
 simp only[List.forIn_cons,List.forIn_nil,hc,Sem.run_bind,run_sizeOf w hi,Result.andThen_ok,Nat.mul_one,h.part (k:=0) (xs := #[.int .i64 a,.int .i64 b,.int .i64 c,.int .i64 d]) (y := .int .i64 a) rfl,h.part (k:=1) (xs := #[.int .i64 a,.int .i64 b,.int .i64 c,.int .i64 d]) (y := .int .i64 b) rfl,
  h.part (k:=2) (xs := #[.int .i64 a,.int .i64 b,.int .i64 c,.int .i64 d]) (y := .int .i64 c) rfl,h.part (k:=3) (xs := #[.int .i64 a,.int .i64 b,.int .i64 c,.int .i64 d]) (y := .int .i64 d) rfl,hI,Sem.run_pure]
theorem ij.check (h:ij P T K V I z) (em:Bool) (e:Ex) (w:World):(Instr.checkKey em 10000 K e.v).run P w = .ok () w:=h.check' em e 9998 w
def io (e:Ex):List (Ex×List C)->Nat->Option (Nat×List C)
 | [],_=>none
 | x::xs,i=>if e=x.1 then some (i,x.2)else io e xs (i+1)
def kvE (L:List (Ex×List C)):List (List C×List C):=L.map fun x=>(x.1.cs,x.2)
theorem bI.key {w:World} {M:Nat->Prop} {L:List (Ex×List C)}:∀{es:List MapEntry},bI w M (kvE L) es->∀(i:Nat) (x:Ex×List C),L[i]?=some x->∃(e:MapEntry) (v:Array Value),es[i]?=some e/\e.key=x.1.v/\e.val = .agg v/\aY w M x.2 v.toList:=by
 induction L with
 | nil=>intro es _ i x h;simp at h
 | cons y L ih =>
  intro es hr i x h;cases es with
  | nil=>exact hr.elim
  | cons e es =>
   obtain⟨⟨k,v,e1,e2,h1,h2⟩,ht⟩:=hr;cases i with
   | zero =>
    simp at h;subst h;exact⟨e,v,rfl,e1.trans (Ex.rep_v ⟨_,rfl,h1⟩),e2,h2⟩
   | succ i=>exact ih ht i x (by simpa using h)
theorem bI.len {w:World} {M:Nat->Prop}:∀{xs:List (List C×List C)} {es:List MapEntry},bI w M xs es->xs.length=es.length
 | [],[],_=>rfl
 | _::_,_::_,h=>by simp[bI.len h.2]
 | [],_::_,h=>h.elim
 | _::_,[],h=>h.elim
theorem ij.find (h:ij P T K V I z) (e:Ex) (w:World) {M:Nat->Prop}:∀{L:List (Ex×List C)} {es:List MapEntry} (i:Nat),bI w M (kvE L) es ->
  (io e L i=none/\(Instr.findAsking K e.v es i).run P w = .ok none w)\/∃ j cs v,io e L i=some (j,cs)/\i<=j/\aY w M cs v.toList/\(Instr.findAsking K e.v es i).run P w = .ok (some (j,.agg v)) w:=by
 intro L
 induction L with
 | nil =>
  intro es i hr;cases es with
  | nil=>exact .inl ⟨rfl,by simp[Instr.findAsking]⟩
  | cons _ _=>exact hr.elim
 | cons y L ih =>
  intro es i hr;cases es with
  | nil=>exact hr.elim
  | cons x es =>
   obtain⟨⟨k,v,e1,e2,h1,h2⟩,ht⟩:=hr;have ek:x.key=y.1.v:=e1.trans (Ex.rep_v ⟨_,rfl,h1⟩);simp only[Instr.findAsking,Sem.run_bind,ek,h.eq,Result.andThen_ok,io];by_cases hh:e=y.1
   ·right;refine⟨i,y.2,v,by simp[hh],ay _,h2,?_⟩;simp[hh,e2]
   ·simp only[hh,decide_false,Bool.false_eq_true,if_false];rcases ih (i+1) ht with h3|⟨j,cs,v',h3,h4,h5⟩
    ·exact .inl h3
    ·exact .inr ⟨j,cs,v',h3,aw,h5⟩
theorem ij.findKey (h:ij P T K V I z) (e:Ex) (w:World) (es:List MapEntry) (hk:∀ x∈es,∃ f:Ex,x.key=f.v):(Instr.findKey K e.v es).run P w=(Instr.findAsking K e.v es).run P w:=by
 simp only[Instr.findKey,Sem.run_bind,run_underlying h.hk,Result.andThen_ok];cases es with
 | nil=>simp[Instr.findNow,Instr.findAsking]
 | cons x es =>
  obtain⟨f,hf⟩:=hk x au;simp[Instr.findNow,Instr.sameNow]
end
section
variable {W0:cW} {M0:Nat->Prop} {N:Nat} {st:St} {G:Gh} {w:World} {a:Act}
def Gh.map (G:Gh) (d B:Nat):Gh:={ G with Q:=upd G.Q d B,own:=upd G.own B (some (.p d)) }
theorem Sim.newMp (S:Sim W0 M0 N st G w a) {w':World} {d B:Nat} {n:MP} (hd:d<N) (hb:bq w.heap.size w w') (hB:w.heap.size<=B) (hB':B<w'.heap.size) (hgen:n.gen=(st.p d).gen+1)
  (hof:∀ t,0<(st.p t).gen->(st.p t).of≠some d) (hn:oN w' ((G.map d B).M M0) (G.map d B) d n) :
  Sim W0 M0 N { st.put (some d) (.mp d n.gen)with p:=upd st.p d n } (G.map d B) w' (a.put (some d) (mP n.of B)):=by
 have hown:∀ b,b<w.heap.size->(G.map d B).own b=G.own b:=fun b h=>aT _ _ aw;have hk:bE w (G.M M0) w' ((G.map d B).M M0):=oq hb hown;have ho:∀ b k,G.own b=some k->(G.map d B).own b=some k/\w'.heap[b]?=w.heap[b]?:=fun b k h =>
  have hl:=(S.own b (by simp[h])).2
  ⟨(hown b hl).trans h,hb.block b hl⟩
 have hE:Evo st G { st.put (some d) (.mp d n.gen)with p:=upd st.p d n } (G.map d B):=by
  refine⟨fun _ _ h=>⟨h,fun e _=>⟨e,rfl⟩⟩,fun _ _ h=>⟨h,fun e _=>⟨e,rfl,rfl,rfl,ay _⟩⟩,fun t g h=>?_⟩;by_cases e:t=d
  ·subst e;simp only[aN];exact⟨aw,fun h' _=>by omega⟩
  ·simp only[aT _ _ e,Gh.map];exact⟨h,fun e' _=>⟨e',trivial,trivial⟩⟩
 refine S.next (v := .mp d n.gen) (fun x h=>by cases h;exact hd) (S.bl hb) hk hE ?_ ?_ ?_ ?_ ?_ ?_
 ·intro m;simp only[St.put];by_cases e:m=d
  ·subst e;simp[aN]
  ·simp[aT _ _ e,e]
 ·intro _;simp only[eH,aN,Gh.map];exact⟨ay _,fun _ _=>trivial⟩
 ·intro t ht;exact S.bx_keep hk rfl (fun b h=>ho b _ h) rfl ht
 ·intro t ht;exact mN.mono (G:=G) hk rfl rfl (fun b h=>ho b _ h) (S.en t ht)
 ·intro t ht;by_cases e:t=d
  ·subst e;simp only[aN];exact hn
  ·simp only[aT _ _ e]at ht ⊢;refine(S.mp t ht).mono hk (fun k hkk=>aT _ _ ?_) (fun b k _ h=>ho b _ h);rcases hkk with rfl|hkk
   ·exact e
   ·rintro rfl;exact hof t ht hkk
 ·intro b h;by_cases e:b=B
  ·subst e;exact⟨.inl (ax S.le hB),hB'⟩
  ·simp only[Gh.map,aT _ _ e]at h;exact⟨(S.own b h).1,Nat.lt_of_lt_of_le (S.own b h).2 hb.size⟩
theorem Sim.setMp (S:Sim W0 M0 N st G w a) {t:Nat} {n:MP} {o:Obj} (hg:0<(st.p t).gen) (hgen:n.gen=(st.p t).gen) (hof':n.of=(st.p t).of) (hof:∀ t',0<(st.p t').gen->(st.p t').of≠some t)
  (hn:oN (w.putObj (G.Q t) o) (G.M M0) G t n):Sim W0 M0 N { st with p:=upd st.p t n } G (w.putObj (G.Q t) o) a:=by
 have hq:G.own (G.Q t)=some (.p t):=(S.mp t hg).1;have hne:∀ b k,k ≠ .p t->G.own b=some k->(w.putObj (G.Q t) o).heap[b]?=w.heap[b]?:=fun b k hk h=>World.putObj_heap_other fun e=>hk (by subst e;rw[hq]at h;exact(Option.some.inj h).symm);have hk:bE w (G.M M0) (w.putObj (G.Q t) o) (G.M M0):=⟨au,fun b _ hm=>⟨hm,World.putObj_heap_other fun e=>hm (.inr (by subst e;simp[hq]))⟩⟩;have hE:Evo st G { st with p:=upd st.p t n } G:=by
  refine⟨fun _ _ h=>⟨h,fun e _=>⟨e,rfl⟩⟩,fun _ _ h=>⟨h,fun e _=>⟨e,rfl,rfl,rfl,ay _⟩⟩,fun t' g h=>?_⟩;by_cases e:t'=t
  ·subst e;simp only[aN];exact⟨aw,fun h' _=>⟨aw,trivial,hof'⟩⟩
  ·simp only[aT _ _ e];exact⟨h,fun e' _=>⟨e',trivial,trivial⟩⟩
 have hbl:W0.Bl w (w.putObj (G.Q t) o):=⟨rfl,rfl,rfl,au,ay _,fun k hk hx=>World.putObj_heap_other fun e=>by
  subst e;rcases (S.own (G.Q t) (by simp[hq])).1 with h|h
  ·omega
  ·exact h hx⟩
 refine S.next (dst:=none) (y:=undef) (v := .any) (fun _ h=>by cases h) hbl hk hE (fun _=>rfl) (fun h=>(h rfl).elim) ?_ ?_ ?_ ?_
 ·intro t' ht';exact S.bx_keep hk rfl (fun b h=>⟨h,hne b _ au h⟩) rfl ht'
 ·intro t' ht';exact mN.mono (G:=G) hk rfl rfl (fun b h=>⟨h,hne b _ au h⟩) (S.en t' ht')
 ·intro t' ht';by_cases e:t'=t
  ·subst e;simp only[aN];exact hn
  ·simp only[aT _ _ e]at ht' ⊢;refine(S.mp t' ht').mono hk (fun _ _=>rfl) (fun b k hkk h=>⟨h,hne b _ (fun e2=>?_) h⟩);cases e2;rcases hkk with rfl|hkk
   ·exact e rfl
   ·exact hof t' ht' hkk
 ·intro b h;exact⟨(S.own b h).1,by rw[World.putObj_size];exact(S.own b h).2⟩
end
section
variable {P:Program} {kind:FuncId->CK} {st:St} {K:St->Prop} {T Kt V I:TypeId} {z:Array Value}
theorem si {d:Tmp} (hof:∀ t,0<(st.p t).gen->(st.p t).of≠some d)
  (hK:K { st.put (some d) (.mp d ((st.p d).gen+1))with p:=upd st.p d { gen:=(st.p d).gen+1,kv:=[] } }):il P kind none (some d) K st (.makeMap T none) ⟨⟩:=by
 refine⟨rfl,fun o ho hdst=>⟨by simp[eO,ho],?_⟩⟩;intro W0 M0 N G w a Q S hd;refine bF (y := .map (some w.heap.size)) (w':=w.alloc (.map #[] 0)) (by simp[execOp,ho,Instr.makeMap]) ?_;rw[hdst];have hd':=hd d hdst;refine⟨_,_,hK,S.newMp (B:=w.heap.size) (n:={ gen:=(st.p d).gen+1,kv:=[] }) hd' ((bq.refl _ _).alloc (ay _) _) (ay _) au rfl hof ?_⟩;exact⟨by simp only[Gh.map,aN],#[],0,by simp only[Gh.map,aN];exact cZ _ _,⟨au,au⟩,trivial⟩
theorem pi {W0:cW} {M0:Nat->Prop} {N:Nat} {G:Gh} {w:World} {a:Act} (S:Sim W0 M0 N st G w a) {x:Operand} {t g:Nat} (hx:st.ev x = .mp t g) (hg:(st.p t).gen=g) (h0:0<g) :
  a.eval x=mP (st.p t).of (G.Q t)/\oN w (G.M M0) G t (st.p t):=by
 have hv:=S.ev x;rw[hx]at hv;exact⟨hv.2 hg h0,S.mp t aw⟩
def uS (z:Array Value) (e:Ex) (L:List (Ex×List C)):List IV:=match io e L 0 with
 | some (_,cs)=>[.g cs,.c (.v (.bool true))]
 | none=>[.g (z.toList.map fK),.c (.v (.bool false))]
theorem Cm (hT:ij P T Kt V I z) (hz1:∀ x∈z.toList,x.oneCell'=true) {dst:Option Tmp} {x ix:Operand} {t g:Nat} {e:Ex} {L:List (Ex×List C)} (hx:st.ev x = .mp t g) (hg:(st.p t).gen=g) (h0:0<g) (hof:(st.p t).of=none) (hL:(st.p t).kv=kvE L)
  (hix:st.ev ix = .i (.g e.cs)) (hK:K (st.put dst (.tup (uS z e L)))):il P kind none dst K st (.lookup T x ix true) ⟨⟩:=by
 refine⟨rfl,fun o ho hdst=>⟨by simp[eO,ho],?_⟩⟩;subst hdst;intro W0 M0 N G w a Q S hd;obtain⟨hxv,hmp⟩:=pi S hx hg h0;have hiv:=S.ev ix;rw[hix]at hiv;have hiv:=Ex.rep_v hiv;obtain⟨hown,hmp⟩:=hmp;rw[hof]at hmp hxv;obtain⟨es,clock,h1,h2,h3⟩:=hmp;rw[hL]at h3;have hkeys:∀ y∈es.toList,∃ f:Ex,y.key=f.v:=fun y hy=>by
  obtain⟨i,hi⟩:=List.getElem?_of_mem hy;have hlen:=h3.len;have hil:i<L.length:=by
   have:=(List.getElem?_eq_some_iff.1 hi).1;unfold kvE at hlen;rw[az]at hlen;omega
  obtain⟨e',v,e1,e2,_⟩:=h3.key i L[i] (by simp[hil]);rw[hi]at e1;cases e1;exact⟨_,e2⟩
 have hget:(getObj (G.Q t)).run P w = .ok (.map es clock) w:=by simp[getObj,Sem.run,h1]
 rcases hT.find e w 0 h3 with⟨hn,hr⟩|⟨j,cs,v,hn,_,hc,hr⟩
 ·refine bF (y := .tuple #[.agg z,.bool false]) (w':=w) ?_ ?_
  ·simp[execOp,ho,hxv,hiv,mP,Instr.lookup,run_underlying hT.hu,hget,hT.check,hT.findKey e w _ hkeys,hr,hT.hz]
  ·refine⟨_,G,hK,S.put hd (bq.refl _ _) fun _=>?_⟩;simp only[uS,hn];exact⟨_,rfl,⟨_,rfl,fo hz1⟩,⟨rfl,rfl⟩,trivial⟩
 ·refine bF (y := .tuple #[.agg v,.bool true]) (w':=w) ?_ ?_
  ·simp[execOp,ho,hxv,hiv,mP,Instr.lookup,run_underlying hT.hu,hget,hT.check,hT.findKey e w _ hkeys,hr]
  ·refine⟨_,G,hK,S.put hd (bq.refl _ _) fun _=>?_⟩;simp only[uS,hn];exact⟨_,rfl,⟨_,rfl,hc⟩,⟨rfl,rfl⟩,trivial⟩
def xp (e:Ex) (cs:List C) (L:List (Ex×List C)):List (Ex×List C):=match io e L 0 with
 | some (j,_)=>L.set j (e,cs)
 | none=>L++[(e,cs)]
theorem An {e:Ex}:∀{L:List (Ex×List C)} {i j:Nat} {cs:List C},io e L i=some (j,cs)->i<=j/\∃ x,L[j-i]?=some x/\x.1=e/\x.2=cs
 | [],_,_,_,h=>by simp[io]at h
 | x::L,i,j,cs,h=>by
  simp only[io]at h;split at h
  ·rename_i e1;simp at h;obtain⟨rfl,rfl⟩:=h;exact⟨ay _,x,au,e1.symm,rfl⟩
  ·obtain⟨h1,y,h2,h3⟩:=An h;exact⟨aw,y,by rw[show j-i=(j-(i+1))+1 from by omega];simpa using h2,h3⟩
theorem bI.set {w:World} {M:Nat->Prop}:∀{xs:List (List C×List C)} {es:List MapEntry} (j:Nat) {x:List C×List C} {y:MapEntry},bI w M xs es->bI w M [x] [y]->bI w M (xs.set j x) (es.set j y)
 | [],[],_,_,_,_,_=>trivial
 | _::_,_::_,0,_,_,h,h'=>⟨h'.1,h.2⟩
 | _::_,_::_,j+1,_,_,h,h'=>⟨h.1,bI.set j h.2 h'⟩
 | [],_::_,_,_,_,h,_=>h.elim
 | _::_,[],_,_,_,h,_=>h.elim
theorem bI.append {w:World} {M:Nat->Prop}:∀{xs:List (List C×List C)} {es:List MapEntry} {x:List C×List C} {y:MapEntry},bI w M xs es->bI w M [x] [y]->bI w M (xs++[x]) (es++[y])
 | [],[],_,_,_,h'=>h'
 | _::_,_::_,_,_,h,h'=>⟨h.1,bI.append h.2 h'⟩
 | [],_::_,_,_,h,_=>h.elim
 | _::_,[],_,_,h,_=>h.elim
theorem I5 {w:World} {M:Nat->Prop} {L:List (Ex×List C)} {es:List MapEntry} (h3:bI w M (kvE L) es):∀ y∈es,∃ f:Ex,y.key=f.v:=fun y hy=>by
 obtain⟨i,hi⟩:=List.getElem?_of_mem hy;have hlen:=h3.len;have hil:i<L.length:=by
  have:=(List.getElem?_eq_some_iff.1 hi).1;unfold kvE at hlen;rw[az]at hlen;omega
 obtain⟨e',v,e1,e2,_⟩:=h3.key i L[i] (by simp[hil]);rw[hi]at e1;cases e1;exact⟨_,e2⟩
theorem zy (e:Ex):Instr.sameBits 10000 e.v e.v=true:=by
 obtain⟨a,b,c,d⟩:=e;rw[show(10000:Nat)=9998+1+1 from rfl];simp[Ex.v,Instr.sameBits]
theorem oP (hT:ij P T Kt V I z) {m k x:Operand} {t g:Nat} {e:Ex} {cs:List C} {L:List (Ex×List C)} (hm:st.ev m = .mp t g) (hg:(st.p t).gen=g) (h0:0<g) (hof:(st.p t).of=none) (hL:(st.p t).kv=kvE L)
  (hof':∀ t',0<(st.p t').gen->(st.p t').of≠some t) (hk:st.ev k = .i (.g e.cs)) (hx:st.ev x = .i (.g cs)) (hK:K { st with p:=upd st.p t { gen:=g,kv:=kvE (xp e cs L) } }):il P kind none none K st (.mapUpdate T m k x) ⟨⟩:=by
 refine⟨rfl,fun o ho hdst=>⟨by simp[eO,ho],?_⟩⟩;intro W0 M0 N G w a Q S hd;obtain⟨hmv,hmp⟩:=pi S hm hg h0;have hkv:=S.ev k;rw[hk]at hkv;have hkv:=Ex.rep_v hkv;have hxv:=S.ev x;rw[hx]at hxv;obtain⟨ys,hxv,hxr⟩:=hxv;obtain⟨hown,hmp⟩:=hmp;rw[hof]at hmp hmv;obtain⟨es,clock,h1,⟨h2,h2'⟩,h3⟩:=hmp;rw[hL]at h3;have hkeys:=I5 h3;have hget:(getObj (G.Q t)).run P w = .ok (.map es clock) w:=by simp[getObj,Sem.run,h1]
 have hset:∀ o',(setObj (G.Q t) o').run P w = .ok () (w.putObj (G.Q t) o'):=fun o'=>by simp[setObj,Sem.run,h1,World.putObj]
 have hlt:G.Q t<w.heap.size:=(Array.getElem?_eq_some_iff.1 h1).1;have hk0:∀ o',bE w (G.M M0) (w.putObj (G.Q t) o') (G.M M0):=fun o'=>⟨au,fun b _ hm=>⟨hm,World.putObj_heap_other fun e=>hm (.inr (by subst e;simp[hown]))⟩⟩;have hstep:∀(es':Array MapEntry) (clock':Nat),(execOp a.eval o).run P w = .ok .skip (w.putObj (G.Q t) (.map es' clock'))->yS es' clock'->bI w (G.M M0) (kvE (xp e cs L)) es'.toList ->
   o.wp P a w (fun a' w'=>∃ st' G',K st'/\Sim W0 M0 N st' G' w' a') Q:=fun es' clock' hrun hb hr=>by
  simp only[Oper.wp,hrun,Oper.upon,hdst];refine⟨_,G,hK,?_⟩;refine(S.setMp (t:=t) (o := .map es' clock') (n:={ gen:=g,kv:=kvE (xp e cs L) }) aw hg.symm (by rw[hof]) hof' ⟨hown,es',clock',World.putObj_heap_same hlt,hb,bI.mono (hk0 _) hr⟩)
 rcases hT.find e w 0 h3 with⟨hn,hr⟩|⟨j,cs',v,hn,_,hc,hr⟩
 ·refine hstep (es.push { key:=e.v,val := .agg ys,born:=clock }) (clock+1) ?_ ⟨?_,?_⟩ ?_
  ·simp[execOp,ho,hmv,hkv,hxv,mP,Instr.mapUpdate,run_underlying hT.hu,hget,hT.check,hT.findKey e w _ hkeys,hr,hset]
  ·simp only[Array.toList_push,List.map_append,List.map_cons,List.map_nil];refine List.nodup_append.2 ⟨h2,au,fun x hx y hy=>?_⟩;simp at hy;obtain⟨e',he',rfl⟩:=List.mem_map.1 hx;have:=h2' e' he';omega
  ·intro y hy;simp only[Array.toList_push,List.mem_append,List.mem_cons,List.not_mem_nil,or_false]at hy;rcases hy with hy|rfl
   ·have:=h2' y hy;omega
   ·exact Nat.lt_succ_self _
  ·simp only[xp,hn,Array.toList_push,kvE,List.map_append];exact bI.append h3 ⟨⟨_,_,rfl,rfl,⟨⟨rfl,rfl⟩,⟨rfl,rfl⟩,⟨rfl,rfl⟩,⟨rfl,rfl⟩,trivial⟩,hxr⟩,trivial⟩
 ·obtain⟨_,y,hy1,hy2,hy3⟩:=An hn;rw[Nat.sub_zero]at hy1;obtain⟨e',v',g1,g2,g3,g4⟩:=h3.key j y hy1;have hj:j<es.size:=by
   have:=(List.getElem?_eq_some_iff.1 g1).1;simpa using this
  have g1':es[j]?=some e':=by simpa using g1
  have g1'':es[j]=e':=(Array.getElem?_eq_some_iff.1 g1').2;have hmod:(es.modify j fun e''=>{ e'' with key:=e.v,val := .agg ys }).toList=es.toList.set j { e' with key:=e.v,val := .agg ys }:=by
   rw[Array.toList_modify];refine List.ext_getElem? fun i=>?_;rw[List.getElem?_modify,List.getElem?_set];by_cases hi:j=i
   ·subst hi;simp[g1'',hj]
   ·simp[hi]
  have hborn:((es.toList.set j { e' with key:=e.v,val := .agg ys }).map (·.born))=es.toList.map (·.born):=by
   rw[List.map_set];refine List.ext_getElem? fun i=>?_;rw[List.getElem?_set];by_cases hi:j=i
   ·subst hi;simp[g1'',hj]
   ·simp[hi]
  refine hstep (es.modify j fun e''=>{ e'' with key:=e.v,val := .agg ys }) clock ?_ ⟨?_,?_⟩ ?_
  ·simp[execOp,ho,hmv,hkv,hxv,mP,Instr.mapUpdate,run_underlying hT.hu,hget,hT.check,hT.findKey e w _ hkeys,hr,hset,g1',g2,hy2,Instr.keyThatStays,zy]
  ·rw[hmod,hborn];exact h2
  ·rw[hmod];intro y' hy';have:y'.born∈(es.toList.set j { e' with key:=e.v,val := .agg ys }).map (·.born):=List.mem_map.2 ⟨y',hy',rfl⟩
   rw[hborn]at this;obtain⟨e2,he2,e3⟩:=List.mem_map.1 this;have:=h2' e2 he2;omega
  ·rw[hmod];simp only[xp,hn,kvE,List.map_set];exact bI.set j h3 ⟨⟨_,_,rfl,rfl,⟨⟨rfl,rfl⟩,⟨rfl,rfl⟩,⟨rfl,rfl⟩,⟨rfl,rfl⟩,trivial⟩,hxr⟩,trivial⟩
theorem FY (hT:ij P T Kt V I z) {d:Tmp} {x:Operand} {t g:Nat} (hx:st.ev x = .mp t g) (hg:(st.p t).gen=g) (h0:0<g) (hof:(st.p t).of=none) (hdt:d≠t) (hof':∀ t',0<(st.p t').gen->(st.p t').of≠some d)
  (hK:K { st.put (some d) (.mp d ((st.p d).gen+1))with p:=upd st.p d { gen:=(st.p d).gen+1,kv:=(st.p t).kv,of:=some t } }):il P kind none (some d) K st (.range T x) ⟨⟩:=by
 refine⟨rfl,fun o ho hdst=>⟨by simp[eO,ho],?_⟩⟩;intro W0 M0 N G w a Q S hd;obtain⟨hxv,hown,hmp⟩:=pi S hx hg h0;rw[hof]at hmp hxv;obtain⟨es,clock,h1,h2,h3⟩:=hmp;have hget:(getObj (G.Q t)).run P w = .ok (.map es clock) w:=by simp[getObj,Sem.run,h1]
 have hlt:G.Q t<w.heap.size:=(Array.getElem?_eq_some_iff.1 h1).1;refine bF (y := .pointer (some ⟨w.heap.size,0,none⟩)) (w':=w.alloc (.mapIter (some (G.Q t)) clock #[] clock)) (by simp[execOp,ho,hxv,mP,Instr.range,run_underlying hT.hu,hget]) ?_;rw[hdst];have hb:=(bq.refl w.heap.size w).alloc (ay _) (.mapIter (some (G.Q t)) clock #[] clock);refine⟨_,_,hK,S.newMp (B:=w.heap.size) (n:={ gen:=(st.p d).gen+1,kv:=(st.p t).kv,of:=some t }) (hd d hdst) hb (ay _) au rfl hof' ?_⟩;have q1:(G.map d w.heap.size).Q t=G.Q t:=aT _ _ (fun e=>hdt e.symm);refine⟨by simp only[Gh.map,aN],?_⟩;refine⟨by rw[q1];exact(aT _ _ aw).trans hown,es,clock,#[],by rw[q1];exact(hb.block _ hlt).trans h1,by rw[q1];simp only[Gh.map,aN];exact cZ _ _,h2,?_,fun x hx=>by simp at hx⟩;have:(es.toList.filter fun e => !(#[]:Array Nat).contains e.born)=es.toList:=List.filter_eq_self.2 fun x _=>by simp
 rw[this];exact bI.mono (oq hb fun b h=>aT _ _ aw) h3
theorem sA:∀{l:List MapEntry} {i:Nat} {e:MapEntry},(l.map (·.born)).Nodup->l[i]?=some e->l.filter (fun x=>x.born != e.born)=l.eraseIdx i
 | [],_,_,_,h=>by simp at h
 | x::l,0,e,hn,h=>by
  simp at h;subst h;simp only[List.map_cons,List.nodup_cons]at hn;rw[List.filter_cons,if_neg au,List.eraseIdx_cons_zero];refine List.filter_eq_self.2 fun y hy=>?_;simp only[bne_iff_ne];intro e;exact hn.1 (e ▸ List.mem_map.2 ⟨y,hy,rfl⟩)
 | x::l,i+1,e,hn,h=>by
  simp only[List.map_cons,List.nodup_cons]at hn;have hm:e∈l:=List.mem_of_getElem? (i:=i) (by simpa using h);rw[List.filter_cons,if_pos (by simp only[bne_iff_ne];intro e';exact hn.1 (e' ▸ List.mem_map.2 ⟨e,hm,rfl⟩)),List.eraseIdx_cons_succ,sA hn.2 (by simpa using h)]
theorem bI.erase {w:World} {M:Nat->Prop}:∀{xs:List (List C×List C)} {es:List MapEntry} (j:Nat),bI w M xs es->bI w M (xs.eraseIdx j) (es.eraseIdx j)
 | [],[],_,_=>by simp[bI]
 | _::_,_::_,0,h=>by simpa using h.2
 | _::_,_::_,j+1,h=>⟨h.1,bI.erase j h.2⟩
 | [],_::_,_,h=>h.elim
 | _::_,[],_,h=>h.elim
theorem bI.at {w:World} {M:Nat->Prop}:∀{xs:List (List C×List C)} {es:List MapEntry} (j:Nat) {y:MapEntry},bI w M xs es->es[j]?=some y->∃ x,xs[j]?=some x/\bI w M [x] [y]
 | [],[],_,_,_,h=>by simp at h
 | x::_,_::_,0,y,h,h'=>by
  simp at h';subst h';exact⟨x,rfl,h.1,trivial⟩
 | _::_,_::_,j+1,_,h,h'=>by simpa using bI.at j h.2 (by simpa using h')
 | [],_::_,_,_,h,_=>h.elim
 | _::_,[],_,_,h,_=>h.elim
theorem IJ {dst:Option Tmp} {x:Operand} {t g k:Nat} (hx:st.ev x = .mp t g) (hg:(st.p t).gen=g) (h0:0<g) (hof:(st.p t).of=some k) (hof':∀ t',0<(st.p t').gen->(st.p t').of≠some t)
  (h1:(st.p t).kv=[]->K (st.put dst (.tup [.c (.v (.bool false))])))
  (h2:∀ i y,(st.p t).kv[i]?=some y->K ({ st with p:=upd st.p t { gen:=g,kv:=(st.p t).kv.eraseIdx i,of:=some k,cur:=some y } }.put dst (.tup [.c (.v (.bool true)),.g y.1,.g y.2]))):il P kind none dst K st (.next x false) ⟨⟩:=by
 refine⟨rfl,fun o ho hdst=>⟨by simp[eO,ho],?_⟩⟩;subst hdst;intro W0 M0 N G w a Q S hd;obtain⟨hxv,hown,hmp⟩:=pi S hx hg h0;rw[hof]at hmp hxv;obtain⟨hok,es,clock,seen,e1,e2,⟨e3,e3'⟩,e4,e5⟩:=hmp;have hlo:(leftOf es seen).toList=es.toList.filter fun e => !seen.contains e.born:=by simp[leftOf]
 rcases run_next_at (P:=P) w o.type (G.Q t) (G.Q k) clock clock seen es clock e2 e1 e3' (ay _)with⟨hz,hrun⟩|⟨e,he,w1,hw1,hrun⟩
 ·have hnil:(es.toList.filter fun e => !seen.contains e.born)=[]:=by rw[<-hlo];exact List.eq_nil_of_length_eq_zero (by simpa using hz)
  have hkv:(st.p t).kv=[]:=List.eq_nil_of_length_eq_zero (by have:=e4.len;rw[hnil]at this;exact this);refine bF (y := .tuple #[.bool false]) (w':=w) (by simp[execOp,ho,hxv,mP,hrun]) ⟨_,G,h1 hkv,S.put hd (bq.refl _ _) fun _=>⟨_,rfl,⟨rfl,rfl⟩,trivial⟩⟩
 ·rw[hlo]at he;obtain⟨i,hi⟩:=List.getElem?_of_mem he;obtain⟨y,hy,hr⟩:=e4.at i hi;have S1:Sim W0 M0 N st G w1 a:=by
   rcases hw1 with rfl|rfl
   ·exact S
   ·exact S.drew
  have hp1:w1.heap=w.heap:=by rcases hw1 with rfl|rfl<;>rfl
  have hlt:G.Q t<w1.heap.size:=by rw[hp1];exact(Array.getElem?_eq_some_iff.1 e2).1
  have hne:G.Q k≠G.Q t:=fun e=>by rw[e,e2]at e1;simp at e1
  have hk0:bE w (G.M M0) (w1.putObj (G.Q t) (.mapIter (some (G.Q k)) clock (seen.push e.born) clock)) (G.M M0) :=
   ⟨by simp[hp1],fun b _ hm=>⟨hm,by rw[World.putObj_heap_other fun e=>hm (.inr (by subst e;simp[hown])),hp1]⟩⟩
  refine bF (y := .tuple #[.bool true,e.key,e.val]) (w':=w1.putObj (G.Q t) (.mapIter (some (G.Q k)) clock (seen.push e.born) clock)) (by simp[execOp,ho,hxv,mP,hrun];rfl) ?_;refine⟨_,G,h2 i y hy,?_⟩;have S2:=S1.setMp (t:=t) (o := .mapIter (some (G.Q k)) clock (seen.push e.born) clock) (n:={ gen:=g,kv:=(st.p t).kv.eraseIdx i,of:=some k,cur:=some y }) aw hg.symm hof.symm hof' ?_
  ·refine S2.put hd (bq.refl _ _) fun _=>⟨_,rfl,⟨rfl,rfl⟩,?_,?_,trivial⟩
   ·obtain⟨⟨k',v',g1,g2,g3,g4⟩,_⟩:=bI.mono hk0 hr;exact⟨_,g1,g3⟩
   ·obtain⟨⟨k',v',g1,g2,g3,g4⟩,_⟩:=bI.mono hk0 hr;exact⟨_,g2,g4⟩
  ·refine⟨hown,hok,es,clock,seen.push e.born,by rw[World.putObj_heap_other hne,hp1];exact e1,World.putObj_heap_same hlt,⟨e3,e3'⟩,?_,fun x hx=>?_⟩
   ·have hf:(es.toList.filter fun x => !(seen.push e.born).contains x.born)=(es.toList.filter fun e => !seen.contains e.born).eraseIdx i:=by
     rw[<-sA ((List.Sublist.map _ List.filter_sublist).nodup e3) hi,List.filter_filter];refine List.filter_congr fun x _=>?_;rw[Array.contains_push];cases h5:seen.contains x.born<;>simp[bne]
    rw[hf];exact bI.mono hk0 (e4.erase i)
   ·cases hx;exact⟨e,(List.mem_filter.1 (List.mem_of_getElem? hi)).1,seen,rfl,bI.mono hk0 hr⟩
theorem GB {dst:Option Tmp} {x:Operand} {t g k:Nat} {y:List C×List C} (hx:st.ev x = .mp t g) (hg:(st.p t).gen=g) (h0:0<g) (hof:(st.p t).of=some k) (hc:(st.p t).cur=some y)
  (hK:K (st.put dst (.tup [.g y.1,.g y.2]))):il P kind none dst K st (.entry x) ⟨⟩:=by
 refine⟨rfl,fun o ho hdst=>⟨by simp[eO,ho],?_⟩⟩;subst hdst;intro W0 M0 N G w a Q S hd;obtain⟨hxv,hown,hmp⟩:=pi S hx hg h0;rw[hof]at hmp hxv;obtain⟨hok,es,clock,seen,e1,e2,⟨e3,e3'⟩,e4,e5⟩:=hmp;obtain⟨e,he,s',rfl,⟨k',v',g1,g2,g3,g4⟩,_⟩:=e5 y hc;have hrun:=run_entry_at (P:=P) w (G.Q t) (G.Q k) clock s' es clock e e2 e1 he e3;refine bF (y := .tuple #[e.key,e.val]) (w':=w) (by simp[execOp,ho,hxv,mP,hrun]) ⟨_,G,hK,S.put hd (bq.refl _ _) fun _=>⟨_,rfl,⟨_,g1,g3⟩,⟨_,g2,g4⟩,trivial⟩⟩
end
def EU (w:World) (M:Nat->Prop) (b:Nat) (kv:List (List C×List C)):Prop:=∃ es clock,w.heap[b]?=some (.map es clock)/\yS es clock/\bI w M kv es.toList
def oX (b:Nat) (k:Nat):Option Key:=if k=b then some (.p 0)else none
def KF (P:Program) (f:FuncId) (kv kv':List (List C×List C)) (args res:List IV):Prop :=
 n8 P f/\∀(w:World) (M:Nat->Prop) (vs:List Value) (b:Nat),(∀ b,M b->b<w.heap.size)->M b->EU w M b kv->cV w M args vs ->
  Calls P f (.map (some b)::vs).toArray w fun e w'=>∃ y,e = .returned y/\yw w' M res y/\(cW.mk w (oX b) []).Bl w w'/\EU w' M b kv'
def nK (kv:List (List C×List C)) (args:List IV):St :=
 {t:=fun n=>match n with|0 => .mp 0 1|n+1=>(match args[n]? with|some x => .i x|none => .any),b:=fun _=>⟨0,[]⟩,e:=fun _=>⟨0,0,[],false,false⟩,p:=fun n=>if n=0 then{ gen:=1,kv:=kv }else{ gen:=0,kv:=[] } }
def gMp (b:Nat):Gh:={ A:=fun _=>0,E:=fun _=>none,cap:=fun _=>0,Q:=fun _=>b,own:=oX b }
def JC (P:Program) (rl:List ResultVar) (res:List IV) (kv':List (List C×List C)) (e:bg) (st:St):Prop :=
 (e = .normal\/e = .ret)/\eF (st.res1 P) rl=some res/\(st.p 0).gen=1/\(st.p 0).of=none/\(st.p 0).kv=kv'
section
variable {P:Program}
theorem Cy {kv:List (List C×List C)} {args:List IV} {vs:List Value} {w:World} {M:Nat->Prop} {n b:Nat} (hm:∀ b,M b->b<w.heap.size) (hb:M b) (hkv:EU w M b kv) (hr:cV w M args vs) (hn:args.length+1<=n) :
  Sim ⟨w,oX b,[]⟩ (fun x=>M x/\x≠b) n (nK kv args) (gMp b) w { tmps:=(.map (some b)::vs).toArray++Array.replicate (n-(.map (some b)::vs).toArray.size) undef,defers:=[] }:=by
 have hM:∀ x,(gMp b).M (fun x=>M x/\x≠b) x->M x:=by
  rintro x (h|h)
  ·exact h.1
  ·simp only[gMp,oX]at h;split at h
   ·rename_i e;rw[e];exact hb
   ·exact(h rfl).elim
 have hk:bE w M w ((gMp b).M (fun x=>M x/\x≠b)):=⟨ay _,fun x _ h=>⟨fun h'=>h (hM x h'),rfl⟩⟩;have hlen:=hr.length;have ob:(gMp b).own b=some (.p 0):=by simp[gMp,oX]
 refine{ m0:=fun x h=>⟨hm x h.1,by simp only[oX];exact if_neg h.2⟩,lkb:=fun x t h=>?_,lkp:=fun x t h=>?_,defers := .nil rfl,size:=?_,below := .refl _ _,fr:=fun k=>?_,bx:=fun t h=>?_,en:=fun t h=>?_,mp:=fun t h=>?_,own:=fun x h=>?_ }
 ·simp only[oX]at h;split at h<;>simp at h
 ·simp only[oX]at h;split at h
  ·rename_i e;cases h;exact⟨ay _,fun _=>e.symm⟩
  ·simp at h
 ·simp;omega
 ·cases k with
  | zero =>
   refine⟨ay _,fun _ _=>?_⟩;show((.map (some b)::vs).toArray++Array.replicate (n-(.map (some b)::vs).toArray.size) undef).getD 0 undef=_;rw[Array.getD_eq_getD_getElem?,Array.getElem?_append_left au];rfl
  | succ k =>
   simp only[nK];cases h:args[k]? with
   | none=>trivial
   | some x =>
    obtain⟨y,hy,hx⟩:=hr.get h;have hk':k<vs.length:=(List.getElem?_eq_some_iff.1 hy).1;have:((.map (some b)::vs).toArray++Array.replicate (n-(.map (some b)::vs).toArray.size) undef).getD (k+1) undef=y:=by
     rw[Array.getD_eq_getD_getElem?,Array.getElem?_append_left (by simpa using hk')];simp[hy]
    show eH _ _ _ _ (.i x) _;rw[this];exact hx.mono hk
 ·simp[nK]at h
 ·simp[nK]at h
 ·simp only[nK]at h;split at h
  ·rename_i e;subst e;obtain⟨es,c,h1,h2,h3⟩:=hkv;exact⟨ob,es,c,h1,h2,bI.mono hk h3⟩
  ·simp at h
 ·simp only[gMp,oX]at h;split at h
  ·rename_i e;subst e;exact⟨.inr (by simp[oX]),hm _ hb⟩
  ·exact(h rfl).elim
theorem vz {f : FuncId} {fn : Func} {c : Code} {rl : List ResultVar} {kv kv' : List (List C × List C)} {args res : List IV} (hf : P.funcs[f]? = some fn) (hb : fn.body = some c) (hr : fn.results = ⟨rl⟩) (hn : (fn.name == "runtime.NumGoroutine") = false)
  (hlen:args.length+1<=fn.ntmps) (hasg:(asg c).all (fun d=>Nat.blt d fn.ntmps)=true) (h:WP P c (JC P rl res kv') (nK kv args)):KF P f kv kv' args res:=by
 refine⟨⟨fn,c,hf,hb,hn⟩,fun w M vs b hm hMb hkv hrs=>?_⟩;refine callsIn_wide.1 (callsIn_of_wp_marks (F:=Fence.wide) (n:=0) hf hb trivial (wpIn_mono (h none ⟨w,oX b,[]⟩ (fun x=>M x/\x≠b) fn.ntmps (gMp b) w _ (Cy hm hMb hkv hrs hlen) fun d hd=>?_) ?_))
 ·have:=(List.all_eq_true.1 hasg) d hd;simpa using this
 ·rintro e a' w' ⟨x,st',G',h1,⟨h2,h3,h4,h5,h6⟩,S⟩;have hend:LeavesInM Fence.wide 0 P fn a'.tmps (fun e w'=>∃ y,e = .returned y/\yw w' M res y/\(cW.mk w (oX b) []).Bl w w'/\EU w' M b kv') a'.defers .returning w':=jZ S fun w' S=>by
   have hq:G'.Q 0=b:=(S.lkp b 0 (by simp[oX])).2 h4;obtain⟨o1,o2⟩:=S.mp 0 aw;rw[hq]at o1 o2;have hM:∀ x,M x->G'.M (fun x=>M x/\x≠b) x:=fun x hx=>by
    by_cases e:x=b
    ·subst e;exact .inr (by simp[o1])
    ·exact .inl ⟨hx,e⟩
   have hk:bE w' (G'.M fun x=>M x/\x≠b) w' M:=⟨ay _,fun x _ h=>⟨fun h'=>h (hM x h'),rfl⟩⟩;obtain⟨y,hy,hr'⟩:=pR S (M1:=M) hM (fun x t e hx=>by
    rcases (S.own x (by simp[e])).1 with h|h
    ·have:=hm x hx;simp only at h;omega
    ·simp only[oX]at h;split at h
     ·rename_i e2;rw[e2,o1]at e;simp at e
     ·exact h rfl) (by rw[hr];exact h3)
   rw[h5]at o2;obtain⟨es,cl,g1,g2,g3⟩:=o2;exact⟨y,hy,y,rfl,hr',S.below,es,cl,g1,g2,by rw[<-h6];exact bI.mono hk g3⟩
  cases e with
  | normal=>exact hend
  | ret=>exact hend
  | exit id=>simp[bz]at h1;subst h1;simp at h2
  | goto l=>simp[bz]at h1
  | panic l=>simp[bz]at h1
  | outgrown=>simp[bz]at h1
theorem Do {f:FuncId} {fn:Func} {c:Code} {rl:List ResultVar} {nt:Nat} {kv kv':List (List C×List C)} {args res:List IV} (kind:FuncId->CK) (hf:P.funcs[f]?=some fn) (hb:fn.body=some c) (hr:fn.results=⟨rl⟩) (hnt:fn.ntmps=nt)
  (hn : (fn.name == "runtime.NumGoroutine") = false) (hlen : args.length + 1 <= nt) (hasg : (asg c).all (fun d => Nat.blt d nt) = true) (h : CW P kind c (JC P rl res kv') (nK kv args)) : KF P f kv kv' args res := by
 subst hnt;exact vz hf hb hr hn hlen hasg (bQ c h)
theorem mD {kind:FuncId->CK} {st:St} {K:St->Prop} {dst:Option Tmp} {c:Call} {f:FuncId} {x0:Operand} {xs:List Operand} {t g:Nat} {kv':List (List C×List C)} {args res:List IV} (hc:c.callee = .value (.func f)) (hkd:kind f = .sem) (hxs:c.args.toList=x0::xs)
  (hx:st.ev x0 = .mp t g) (hg:(st.p t).gen=g) (h0:0<g) (hof:(st.p t).of=none) (hof':∀ t',0<(st.p t').gen->(st.p t').of≠some t) (ha:eF (fun x=>st.toIV (st.ev x)) xs=some args)
  (hf:KF P f (st.p t).kv kv' args res) (hK:K ({ st with p:=upd st.p t { gen:=g,kv:=kv' } }.put dst (rv res))):il P kind none dst K st (.call c) ⟨⟩:=by
 refine⟨rfl,fun o ho hdst=>⟨?_,?_⟩⟩
 ·obtain⟨cal,ca,ct⟩:=c;subst hc;simp[eO,ho,hkd]
 intro W0 M0 N G w a Q S hd;rw[hdst]at hd;obtain⟨hxv,hown,hmp⟩:=pi S hx hg h0;rw[hof]at hmp hxv;have hargs:=nW S ha;have hcal:c8 st c=some f:=by simp[c8,hc,St.ev]
 have hrun:=lO S ho hcal hf.1;have hav:(c.args.toList.map a.eval).toArray=(Value.map (some (G.Q t))::xs.map a.eval).toArray:=by
  rw[hxs,List.map_cons,hxv];rfl
 simp only[Oper.wp,hrun,Oper.upon,hav,hdst];refine(hf.2 w (G.M M0) _ (G.Q t) (mbelow S) (.inr (by simp[hown])) hmp hargs).mono ?_;rintro e w' ⟨y,rfl,hr,hbl,hm'⟩;have hne:∀ x,x<w.heap.size->x≠G.Q t->w'.heap[x]?=w.heap[x]?:=fun x hx hn=>hbl.block x hx (by simp only[oX];exact if_neg hn);have hk:bE w (G.M M0) w' (G.M M0):=⟨hbl.size,fun b hb hm=>⟨hm,hne b hb fun e=>hm (.inr (by subst e;simp[hown]))⟩⟩;have hown':∀ b k,k ≠ .p t->G.own b=some k->G.own b=some k/\w'.heap[b]?=w.heap[b]?:=fun b k hk h =>
  ⟨h,hne b (S.own b (by simp[h])).2 fun e=>hk (by subst e;rw[hown]at h;exact(Option.some.inj h).symm)⟩
 have e1:(St.put { st with p:=upd st.p t { gen:=g,kv:=kv' } } dst (rv res)).b=st.b:=by cases dst<;>rfl
 have e2:(St.put { st with p:=upd st.p t { gen:=g,kv:=kv' } } dst (rv res)).e=st.e:=by cases dst<;>rfl
 have e3:(St.put { st with p:=upd st.p t { gen:=g,kv:=kv' } } dst (rv res)).p=upd st.p t { gen:=g,kv:=kv' }:=by cases dst<;>rfl
 have hE:Evo st G ({ st with p:=upd st.p t { gen:=g,kv:=kv' } }.put dst (rv res)) G:=by
  refine⟨fun t' g' h=>by rw[e1];exact⟨h,fun e _=>⟨e,rfl⟩⟩,fun t' g' h=>by rw[e2];exact⟨h,fun e _=>⟨e,rfl,rfl,rfl,ay _⟩⟩,fun t' g' h=>?_⟩;rw[e3];by_cases e:t'=t
  ·subst e;simp only[aN];exact⟨aw,fun h' _=>⟨aw,trivial,hof.symm⟩⟩
  ·simp only[aT _ _ e];exact⟨h,fun e' _=>⟨e',trivial,trivial⟩⟩
 refine⟨_,G,hK,S.next (v:=rv res) hd ⟨hbl.os,hbl.tape,hbl.output,hbl.size,hbl.drawn,fun k hk hx=>hne k (Nat.lt_of_lt_of_le hk S.le) fun e=>?_⟩ hk hE ?_ ?_ ?_ ?_ ?_ ?_⟩
 ·subst e;rcases (S.own _ (by simp[hown]:G.own (G.Q t)≠none)).1 with h|h
  ·omega
  ·exact h hx
 ·intro n;cases dst with
  | none=>rfl
  | some d =>
   simp only[St.put];by_cases e:n=d
   ·subst e;simp[aN]
   ·simp[aT _ _ e,e]
 ·intro _;exact HW hr
 ·intro t' ht';rw[e1]at ht' ⊢;exact S.bx_keep hk rfl (fun b h=>hown' b _ au h) rfl ht'
 ·intro t' ht';rw[e2]at ht' ⊢;exact mN.mono (G:=G) hk rfl rfl (fun b h=>hown' b _ au h) (S.en t' ht')
 ·intro t' ht';rw[e3]at ht' ⊢;by_cases e:t'=t
  ·subst e;simp only[aN];exact⟨hown,hm'⟩
  ·simp only[aT _ _ e]at ht' ⊢;refine(S.mp t' ht').mono hk (fun _ _=>rfl) (fun b k hkk h=>hown' b _ (fun e2=>?_) h);cases e2;rcases hkk with rfl|hkk
   ·exact e rfl
   ·exact hof' t' ht' hkk
 ·intro b h;exact⟨(S.own b h).1,Nat.lt_of_lt_of_le (S.own b h).2 hbl.size⟩
end
end Go.AM
namespace Go.Proofs
open Go.Shelf
def Tryz.pdqL_ren:Go.Shelf.Ren:=⟨fun|14=>219|20=>230|21=>231|22=>232|23=>233|24=>234|25=>235|26=>236|27=>237|46=>249|47=>250|48=>251|49=>252|50=>253|15=>220|57=>257|28=>238|29=>239|n=>n,fun|24=>102|22=>41|3=>3|25=>176|4=>4|0=>0|46=>202|45=>201|50=>206|66=>216|39=>117|55=>144|70=>220|76=>226|77=>227|53=>141|5=>5|9=>9|n=>n,fun|n=>n⟩
theorem Tryz.pdqL:Go.Proofs.SlLaysF0.n14 Tryz.prog Tryz.pdqL_ren:={
 mixed:=by kernel_rfl
 f14:=⟨Tryz.f219.name,by decide,Tryz.func219.trans (congrArg some (by kernel_rfl))⟩
 f15:=Tryz.func220.trans (congrArg some (by kernel_rfl))
 f20:=⟨Tryz.f230.name,by decide,Tryz.func230.trans (congrArg some (by kernel_rfl))⟩
 f21:=⟨Tryz.f231.name,by decide,Tryz.func231.trans (congrArg some (by kernel_rfl))⟩
 f22:=⟨Tryz.f232.name,by decide,Tryz.func232.trans (congrArg some (by kernel_rfl))⟩
 f23:=⟨Tryz.f233.name,by decide,Tryz.func233.trans (congrArg some (by kernel_rfl))⟩
 f24:=⟨Tryz.f234.name,by decide,Tryz.func234.trans (congrArg some (by kernel_rfl))⟩
 f25:=⟨Tryz.f235.name,by decide,Tryz.func235.trans (congrArg some (by kernel_rfl))⟩
 f26:=⟨Tryz.f236.name,by decide,Tryz.func236.trans (congrArg some (by kernel_rfl))⟩
 f27:=⟨Tryz.f237.name,by decide,Tryz.func237.trans (congrArg some (by kernel_rfl))⟩
 f28:=Tryz.func238.trans (congrArg some (by kernel_rfl))
 f29:=Tryz.func239.trans (congrArg some (by kernel_rfl))
 f46:=⟨Tryz.f249.name,by decide,Tryz.func249.trans (congrArg some (by kernel_rfl))⟩
 f47:=Tryz.func250.trans (congrArg some (by kernel_rfl))
 f48:=Tryz.func251.trans (congrArg some (by kernel_rfl))
 f49:=⟨Tryz.f252.name,by decide,Tryz.func252.trans (congrArg some (by kernel_rfl))⟩
 f50:=⟨Tryz.f253.name,by decide,Tryz.func253.trans (congrArg some (by kernel_rfl))⟩
 f57:=⟨Tryz.f257.name,by decide,Tryz.func257.trans (congrArg some (by kernel_rfl))⟩
 t0:=Tryz.underlying0
 a0:=Tryz.isAgg0
 z0:=Tryz.sizeOf0
 v0:=Tryz.zeroValue0
 t3:=Tryz.underlying3
 a3:=Tryz.isAgg3
 z3:=Tryz.sizeOf3
 v3:=Tryz.zeroValue3
 t4:=Tryz.underlying4
 a4:=Tryz.isAgg4
 z4:=Tryz.sizeOf4
 v4:=Tryz.zeroValue4
 t5:=Tryz.underlying5
 a5:=Tryz.isAgg5
 z5:=Tryz.sizeOf5
 v5:=Tryz.zeroValue5
 t9:=Tryz.underlying9
 a9:=Tryz.isAgg9
 z9:=Tryz.sizeOf9
 v9:=Tryz.zeroValue9
 t22:=Tryz.underlying41
 a22:=Tryz.isAgg41
 z22:=Tryz.sizeOf41
 v22:=Tryz.zeroValue41
 t25:=Tryz.underlying176
 a25:=Tryz.isAgg176
 z25:=Tryz.sizeOf176
 v25:=Tryz.zeroValue176
 t39:=Tryz.underlying117
 a39:=Tryz.isAgg117
 z39:=Tryz.sizeOf117
 v39:=Tryz.zeroValue117
 t45:=Tryz.underlying201
 a45:=Tryz.isAgg201
 z45:=Tryz.sizeOf201
 v45:=Tryz.zeroValue201
 t46:=Tryz.underlying202
 a46:=Tryz.isAgg202
 z46:=Tryz.sizeOf202
 v46:=Tryz.zeroValue202
 t50:=Tryz.underlying206
 a50:=Tryz.isAgg206
 z50:=Tryz.sizeOf206
 v50:=Tryz.zeroValue206
 t53:=Tryz.underlying141
 a53:=Tryz.isAgg141
 z53:=Tryz.sizeOf141
 v53:=Tryz.zeroValue141
 t55:=Tryz.underlying144
 a55:=Tryz.isAgg144
 z55:=Tryz.sizeOf144
 v55:=Tryz.zeroValue144
 t66:=Tryz.underlying216
 a66:=Tryz.isAgg216
 z66:=Tryz.sizeOf216
 v66:=Tryz.zeroValue216
 t70:=Tryz.underlying220
 a70:=Tryz.isAgg220
 z70:=Tryz.sizeOf220
 v70:=Tryz.zeroValue220
 t76:=Tryz.underlying226
 a76:=Tryz.isAgg226
 z76:=Tryz.sizeOf226
 v76:=Tryz.zeroValue226
 t77:=Tryz.underlying227
 a77:=Tryz.isAgg227
 z77:=Tryz.sizeOf227
 v77:=Tryz.zeroValue227 }
def Tryz.lenL_ren:Go.Shelf.Ren:=⟨fun|15=>220|28=>238|29=>239|n=>n,fun|39=>117|3=>3|53=>141|55=>144|4=>4|5=>5|9=>9|n=>n,fun|n=>n⟩
theorem Tryz.lenL:Go.Proofs.SlLaysF0.n15 Tryz.prog Tryz.lenL_ren:={
 mixed:=by kernel_rfl
 f15:=Tryz.func220.trans (congrArg some (by kernel_rfl))
 f28:=Tryz.func238.trans (congrArg some (by kernel_rfl))
 f29:=Tryz.func239.trans (congrArg some (by kernel_rfl))
 t3:=Tryz.underlying3
 a3:=Tryz.isAgg3
 z3:=Tryz.sizeOf3
 v3:=Tryz.zeroValue3
 t4:=Tryz.underlying4
 a4:=Tryz.isAgg4
 z4:=Tryz.sizeOf4
 v4:=Tryz.zeroValue4
 t5:=Tryz.underlying5
 a5:=Tryz.isAgg5
 z5:=Tryz.sizeOf5
 v5:=Tryz.zeroValue5
 t9:=Tryz.underlying9
 a9:=Tryz.isAgg9
 z9:=Tryz.sizeOf9
 v9:=Tryz.zeroValue9
 t39:=Tryz.underlying117
 a39:=Tryz.isAgg117
 z39:=Tryz.sizeOf117
 v39:=Tryz.zeroValue117
 t53:=Tryz.underlying141
 a53:=Tryz.isAgg141
 z53:=Tryz.sizeOf141
 v53:=Tryz.zeroValue141
 t55:=Tryz.underlying144
 a55:=Tryz.isAgg144
 z55:=Tryz.sizeOf144
 v55:=Tryz.zeroValue144 }
end Go.Proofs
namespace Go.AM
open Go.Proofs Go.Shelf Go.Sort
structure R8 where
 l:List Value
 e:Ex
 hl:l.length=8
 h1:∀ v∈l,v.oneCell'=true
 he:l.take 4=[.int .i64 e.a,.int .i64 e.b,.int .i64 e.c,.int .i64 e.d]
instance:Inhabited R8:=⟨⟨List.replicate 8 (.int .i64 0),⟨0,0,0,0⟩,rfl,by simp[Value.oneCell'],rfl⟩⟩
def vN (a b:Int):Int:=if a<b then -1 else if b<a then 1 else 0
def cp (e f:Ex):Int:=if e.d≠f.d then vN e.d f.d else if e.c≠f.c then vN e.c f.c else if e.b≠f.b then vN e.b f.b else vN e.a f.a
theorem yg (e f:Ex):cp e f<0↔e.d<f.d\/e.d=f.d/\(e.c<f.c\/e.c=f.c/\(e.b<f.b\/e.b=f.b/\e.a<f.a)):=by
 unfold cp vN
 (repeat' split)<;>omega
def cfX (x y:R8):Int:=cp y.e x.e
theorem Qx:SWO (ltOf cfX) where
 irrefl x:=by simp only[ltOf,cfX,decide_eq_false_iff_not,yg];omega
 trans x y z h1 h2:=by simp only[ltOf,cfX,decide_eq_true_eq,yg]at *;omega
 ntrans x y z h1 h2:=by simp only[ltOf,cfX,decide_eq_false_iff_not,yg]at *;omega
theorem C8 {w w':World} (h:bq w.heap.size w w'):∃ q os,w'=grow (w.drewN q) os:=by
 refine⟨w'.drawn-w.drawn,w'.heap.extract w.heap.size w'.heap.size,?_⟩;have h1:=h.os;have h2:=h.tape;have h3:=h.output;have h4:=h.drawn;have h5:w.heap++w'.heap.extract w.heap.size w'.heap.size=w'.heap:=by
  refine Array.ext_getElem? fun k=>?_;rcases Nat.lt_or_ge k w.heap.size with hk|hk
  ·rw[Array.getElem?_append_left hk,h.block k hk]
  ·rw[Array.getElem?_append_right hk,Array.getElem?_extract];rcases Nat.lt_or_ge k w'.heap.size with hk'|hk'
   ·rw[if_pos aw];congr 1;omega
   ·rw[if_neg aw];exact(Array.getElem?_eq_none hk').symm
 cases w;cases w';simp only[grow,World.drewN]at *
 subst h1 h2 h3;congr
 ·exact h5.symm
 ·omega
theorem yR {w:World} {M:Nat->Prop}:∀{l:List Value},(∀ v∈l,v.oneCell'=true)->aY w M (l.map C.v) l
 | [],_=>trivial
 | v::l,h=>⟨⟨rfl,h v au⟩,yR fun x hx=>h x (by simp[hx])⟩
theorem Mv {P:Program} {g:Nat} (hf:∀ x y:R8,Fn P g [.g (x.l.map C.v),.g (y.l.map C.v)] [.c (.v (.int .i64 (cfX x y)))]) (blk off size:Nat) (w:World):CmpLays P g #[] R8.l 8 cfX blk off size w:=by
 intro m os dk _ x y;have h:=(hf x y).2 (sortWorldK R8.l 8 w blk off m dk os) (fun _=>False) [.agg x.l.toArray,.agg y.l.toArray] (fun _ h=>h.elim) ⟨⟨_,rfl,yR x.h1⟩,⟨_,rfl,yR y.h1⟩,trivial⟩;refine h.mono ?_;rintro e w' ⟨y,rfl,hr,hb⟩;have:y = .int .i64 (cfX _ _):=hr.1;subst this;exact⟨rfl,C8 hb⟩
def nu (x:Ex×List C):List C:=x.1.cs++x.2
def Al (w:World) (M:Nat->Prop):List (Ex×List C)->List R8->Prop
 | [],[]=>True
 | x::L,r::ds=>(r.e=x.1/\aY w M (nu x) r.l)/\Al w M L ds
 | _,_=>False
theorem Al.len {w:World} {M:Nat->Prop}:∀{L:List (Ex×List C)} {ds:List R8},Al w M L ds->L.length=ds.length
 | [],[],_=>rfl
 | _::_,_::_,h=>by simp[Al.len h.2]
 | [],_::_,h=>h.elim
 | _::_,[],h=>h.elim
theorem Al.perm {w:World} {M:Nat->Prop} {ds ds':List R8} (h:ds.Perm ds'):∀{L:List (Ex×List C)},Al w M L ds->∃ L',L.Perm L'/\Al w M L' ds':=by
 induction h with
 | nil=>exact fun{L} h=>⟨L,.refl _,h⟩
 | cons r h ih =>
  intro L hL;cases L with
  | nil=>exact hL.elim
  | cons x L =>
   obtain⟨L',h1,h2⟩:=ih hL.2;exact⟨x::L',h1.cons x,hL.1,h2⟩
 | swap r r' l =>
  intro L hL
  match L,hL with
  | x::y::L,⟨h1,h2,h3⟩=>exact⟨y::x::L,.swap _ _ _,h2,h1,h3⟩
 | trans _ _ ih1 ih2 =>
  intro L hL;obtain⟨L1,h1,h2⟩:=ih1 hL;obtain⟨L2,h3,h4⟩:=ih2 h2;exact⟨L2,h1.trans h3,h4⟩
theorem Al.flat {w:World} {M:Nat->Prop}:∀{L:List (Ex×List C)} {ds:List R8},Al w M L ds->aY w M (L.map nu).flatten (ds.flatMap R8.l)
 | [],[],_=>trivial
 | _::_,_::_,h=>by
  simp only[List.map_cons,List.flatten_cons,List.flatMap_cons];exact h.1.2.append (Al.flat h.2)
 | [],_::_,h=>h.elim
 | _::_,[],h=>h.elim
theorem Al.get {w:World} {M:Nat->Prop}:∀{L:List (Ex×List C)} {ds:List R8} {i:Nat} {r:R8},Al w M L ds->ds[i]?=some r->∃ x,L[i]?=some x/\r.e=x.1
 | [],[],_,_,_,h=>by simp at h
 | x::_,_::_,0,_,h,h'=>by simp at h';subst h';exact⟨x,rfl,h.1.1⟩
 | _::_,_::_,i+1,_,h,h'=>by simpa using Al.get h.2 (by simpa using h')
 | [],_::_,_,_,h,_=>h.elim
 | _::_,[],_,_,h,_=>h.elim
theorem DK {w:World} {M:Nat->Prop} {b:Nat}:∀{L:List (Ex×List C)} {off:Nat},(∀ x∈L,x.2.length=4)->aS w M (L.map nu) b off 8 ->
  ∃ ds,Al w M L ds/\∀ j,j<L.length*8->w.cell? ⟨b,off+j,none⟩=(ds.flatMap R8.l)[j]?
 | [],off,_,_=>⟨[],trivial,fun j h=>by simp at h⟩
 | x::L,off,hl,h=>by
  simp only[List.map_cons,aS]at h;obtain⟨h1,h2,h3⟩:=h;obtain⟨ds,g1,g2⟩:=DK (fun y hy=>hl y (by simp[hy])) h3;obtain⟨ys,k1,k2⟩:=h2.reps;have hlen:ys.length=8:=by rw[<-k1.length];exact h1
  have h4:ys.take 4=[.int .i64 x.1.a,.int .i64 x.1.b,.int .i64 x.1.c,.int .i64 x.1.d]:=Ex.reps (e:=x.1) (by
   have:=k1.take 4;rwa [show(nu x).take 4=x.1.cs from by simp[nu,Ex.cs]]at this)
  refine⟨⟨ys,x.1,hlen,k1.oneCell,h4⟩::ds,⟨⟨rfl,k1⟩,g1⟩,fun j hj=>?_⟩;simp only[List.flatMap_cons];simp only[List.length_cons,Nat.add_mul]at hj;rcases Nat.lt_or_ge j 8 with h5|h5
  ·rw[List.getElem?_append_left aw];exact k2 j (by rw[h1];exact h5)
  ·rw[List.getElem?_append_right aw,hlen,<-g2 (j-8) aw];congr 2;omega
theorem Am:∀(ds:List R8) (t:Nat),t<ds.length*8->(ds.flatMap R8.l)[t]?=(ds[t/8]?).bind fun r=>r.l[t % 8]?
 | [],_,h=>by simp at h
 | r::ds,t,h=>by
  simp only[List.flatMap_cons];simp only[List.length_cons,Nat.add_mul]at h;have hl:=r.hl;rcases Nat.lt_or_ge t 8 with h5|h5
  ·rw[List.getElem?_append_left aw,Nat.div_eq_of_lt h5,Nat.mod_eq_of_lt h5];rfl
  ·rw[List.getElem?_append_right aw,hl,Am ds (t-8) aw];obtain⟨u,rfl⟩:∃ u,t=u+8:=⟨t-8,aw⟩;rw[Nat.add_sub_cancel,Nat.add_div_right _ aw,Nat.add_mod_right];rfl
theorem uR (d:Array R8):(flatK R8.l 8 d).toList=d.toList.flatMap R8.l:=by
 have hlen:(d.toList.flatMap R8.l).length=d.size*8:=by
  obtain⟨l⟩:=d;simp only[List.size_toArray]
  induction l with
  | nil=>rfl
  | cons r l ih =>
   simp only[List.flatMap_cons,List.length_append,r.hl,List.length_cons]at ih ⊢;rw[ih];omega
 refine List.ext_getElem? fun t=>?_;rcases Nat.lt_or_ge t (d.size*8)with h|h
 ·have h1:t<(flatK R8.l 8 d).size:=by simpa using h
  have h2:=get_flatK R8.l 8 d t h;rw[Am d.toList t (by simpa using h)];have h3:t/8<d.size:=aw;rw[getElem!_pos (flatK R8.l 8 d) t h1,getElem!_pos d (t/8) h3]at h2;have h4:t % 8<(d[t/8]).l.length:=by rw[d[t/8].hl];omega
  rw[getElem!_pos (d[t/8]).l (t % 8) h4]at h2;rw[Array.getElem?_toList,Array.getElem?_eq_getElem h1,h2];simp[h3,h4]
 ·rw[List.getElem?_eq_none (by simpa using h),List.getElem?_eq_none aw]
section
variable {P:Program} {kind:FuncId->CK} {st:St} {K:St->Prop}
theorem HR {dst:Option Tmp} {c:Call} {f g:FuncId} {x:Operand} {t gn:Nat} {L:List (Ex×List C)} (hc:c.callee = .value (.func f)) (hkd:kind f = .sem) (hxs:c.args = #[x,.func g])
  (he:n8 P f) (hS:∀(b cap:Nat) (d:Array R8) (w:World),HoldsK R8.l 8 w b 0 d->b<w.heap.size->d.size<4611686018427387904 ->
   Calls P f #[.slice (some ⟨b,0,none⟩) d.size cap,.func (.func g) #[] #[]] w fun e w'=>e = .returned (.tuple #[])/\∃ d':Array R8,d'.size=d.size/\d.toList.Perm d'.toList/\SortedIn (ltOf cfX) 0 d.size d'/\SWK R8.l 8 w b 0 d' w')
  (hx:st.ev x = .sl t gn L.length) (hg:(st.e t).gen=gn) (h0:0<gn) (hm:(st.e t).m=true) (hsz:(st.e t).sz=8) (hrs:(st.e t).rs=L.map nu) (hL:∀ x∈L,x.2.length=4) (hn:L.length<4611686018427387904)
  (hK:∀ L',L.Perm L'->L'.Pairwise (fun x y=>0<=cp x.1 y.1)->K ({ st with e:=upd st.e t { st.e t with rs:=L'.map nu } }.put dst (.tup []))):il P kind none dst K st (.call c) ⟨⟩:=by
 refine⟨rfl,fun o ho hdst=>⟨?_,?_⟩⟩
 ·obtain⟨cal,ca,ct⟩:=c;subst hc;simp[eO,ho,hkd]
 intro W0 M0 N G w a Q S hd;have hv:=S.ev x;rw[hx]at hv;obtain⟨_,hxv⟩:=hv.2 hg h0;have hgp:0<(st.e t).gen:=aw;obtain⟨q1,q2,q3,q4⟩:=S.en t hgp;obtain⟨b,ys,T,f1,f2,f3,f4⟩:=q3 hm;have hbl:=(S.own b (by simp[f2])).2;have hrows:aS w (G.M M0) (L.map nu) b 0 8:=by
  rw[hrs,hsz]at q1;rcases q1 with h1|⟨b',o',e1,e2,_,e4⟩
  ·rw[h1];simp only[aS]
  ·obtain⟨rfl,rfl⟩:b=b'/\0=o':=by rw[f1]at e1;simp at e1;exact e1
   exact e4
 obtain⟨ds,hal,hcell⟩:=DK hL hrows;have hdl:=hal.len;have hH:HoldsK R8.l 8 w b 0 ds.toArray:=by
  intro j hj;rw[size_flatK]at hj;simp only[List.size_toArray]at hj;refine⟨?_,by simp[World.frozen?,f3]⟩;have:=hcell j (by rw[hdl];exact hj);have h1:j<(flatK R8.l 8 ds.toArray).size:=by simpa using hj
  rw[this,getElem!_pos (flatK R8.l 8 ds.toArray) j h1];have h2:=congrArg (fun l=>l[j]?) (uR ds.toArray);simp only[Array.getElem?_toList]at h2;rw[<-h2];simp
 have hcal:c8 st c=some f:=by simp[c8,hc,St.ev]
 have hrun:=lO S ho hcal he;have hav:(c.args.toList.map a.eval).toArray = #[.slice (some ⟨b,0,none⟩) ds.toArray.size (G.cap t),.func (.func g) #[] #[]]:=by
  rw[f1]at hxv;rw[hxs];show[a.eval x,a.eval (.func g)].toArray=_;rw[hxv,hdl];rfl
 simp only[Oper.wp,hrun,Oper.upon,hav,hdst];rw[hdst]at hd;refine(hS b (G.cap t) ds.toArray w hH hbl (by simpa [<-hdl]using hn)).mono ?_;rintro e w' ⟨rfl,d',hds,hperm,hsort,n,os,rfl⟩;obtain⟨L',hLp,hal'⟩:=hal.perm hperm;have hL':∀ x∈L',x.2.length=4:=fun x hx=>hL x (hLp.mem_iff.2 hx);have hlen8:∀ r∈L'.map nu,r.length=(st.e t).sz:=fun r hr=>by
  obtain⟨x,hx,rfl⟩:=List.mem_map.1 hr;rw[hsz];simp[nu,Ex.cs,hL' x hx]
 obtain⟨hfit,S2⟩:=S.copyEn (t:=t) (xs:=L'.map nu) hgp hm hal'.flat hlen8 (by rw[hrs];simp[hLp.length_eq]) f1 f3;have hrs':L'.map nu++(st.e t).rs.drop (L'.map nu).length=L'.map nu:=by
  rw[hrs,List.drop_eq_nil_of_le (by simp[hLp.length_eq]),List.append_nil]
 rw[hrs']at S2;have hzs:(flatK R8.l 8 d').toList=d'.toList.flatMap R8.l:=uR d';have hcells:putCells id 0 (flatK R8.l 8 d') ys=(d'.toList.flatMap R8.l++ys.toList.drop (d'.toList.flatMap R8.l).length).toArray:=by
  rw[<-hzs]at hfit ⊢;simp only[Array.length_toList]at hfit ⊢;refine Array.ext_getElem? fun k=>?_;simp only[putCells,Array.getElem?_mapIdx,Nat.zero_le,true_and,Nat.zero_add,Nat.sub_zero,id,List.getElem?_toArray];rcases Nat.lt_or_ge k (flatK R8.l 8 d').size with hk|hk
  ·rw[List.getElem?_append_left (by simpa using hk)];have:k<ys.size:=aw;rw[getElem!_pos (flatK R8.l 8 d') k hk];simp only[Array.getElem?_eq_getElem this,Option.map_some,if_pos hk,Array.getElem?_toList,Array.getElem?_eq_getElem hk]
  ·rw[List.getElem?_append_right (by simpa using hk),List.getElem?_drop];simp only[Array.length_toList,Array.getElem?_toList];rw[Nat.add_sub_cancel' hk];cases ys[k]? with
   | none=>rfl
   | some v=>simp only[Option.map_some];rw[if_neg aw]
 have hb1:bq (w.setRow b (d'.toList.flatMap R8.l++ys.toList.drop (d'.toList.flatMap R8.l).length).toArray).heap.size (w.setRow b (d'.toList.flatMap R8.l++ys.toList.drop (d'.toList.flatMap R8.l).length).toArray) (sortWorldK R8.l 8 w b 0 n d' os):=by
  refine⟨rfl,rfl,rfl,?_,Nat.le_add_right _ _,fun k hk=>?_⟩
  ·rw[dD];simp[sortWorldK,grow,putRowK,putRow,mapBlock,Sort.ahead]
  ·rw[dD]at hk;have e1:(sortWorldK R8.l 8 w b 0 n d' os).heap[k]?=(w.heap.modify b (onCells (putCells id 0 (flatK R8.l 8 d'))))[k]?:=by
    simp only[sortWorldK,grow,putRowK,putRow,mapBlock,Sort.ahead];rw[Array.getElem?_append_left (by simpa using hk)]
   rw[e1,Array.getElem?_modify];by_cases e:b=k
   ·subst e;rw[if_pos rfl,setRow_heap w b ys _ T _ f3,f3];simp only[Option.map_some,onCells,hcells]
   ·rw[if_neg e,dI (fun h=>e h.symm)]
 refine⟨_,G,hK L' hLp ?_,S2.put hd hb1 fun _=>⟨_,rfl,trivial⟩⟩;refine List.pairwise_iff_getElem.2 fun i j hi hj hij=>?_;have hl2:=hal'.len;have hjd:j<d'.size:=by simpa [hl2]using hj
 have:=hsort i j (Nat.zero_le _) hij (by rw[<-hds];exact hjd);rw[getElem!_pos d' j hjd,getElem!_pos d' i (show i<d'.size by omega)]at this;obtain⟨x1,g1,g2⟩:=hal'.get (i:=i) (r:=d'[i]) au;obtain⟨x2,g3,g4⟩:=hal'.get (i:=j) (r:=d'[j]) au;have e1:L'[i]=x1:=(List.getElem?_eq_some_iff.1 g1).2;have e2:L'[j]=x2:=(List.getElem?_eq_some_iff.1 g3).2;rw[e1,e2];have this':¬ cp d'[i].e d'[j].e<0:=of_decide_eq_false this;rw[g2,g4]at this';omega
end
end Go.AM
namespace Go.AM
open Go.Proofs Go.Shelf Go.Sort Go.Lib Go.RowKit
theorem agg102:∀ w,(isAgg (Tryz.pdqL_ren.t 24)).run Tryz.prog w = .ok true w:=fun w=>by
 have h:Tryz.prog.underlying 102=some (.struct _):=rfl;show(isAgg 102).run Tryz.prog w=_;simp[isAgg,run_underlying h]
theorem size102:∀ w,(Go.sizeOf (Tryz.pdqL_ren.t 24)).run Tryz.prog w = .ok 8 w:=fun w=>by
 have h:∃ i,Tryz.prog.info? 102=some i/\i.size=8:=⟨_,rfl,rfl⟩;obtain⟨i,h1,h2⟩:=h;show(Go.sizeOf 102).run Tryz.prog w=_;rw[run_sizeOf w h1];simp[Program.cellsOf,h1,h2]
set_option maxHeartbeats 2000000 in
theorem xz (hf:∀ x y:R8,Fn Tryz.prog 198 [.g (x.l.map C.v),.g (y.l.map C.v)] [.c (.v (.int .i64 (cfX x y)))]) (b cap:Nat) (d:Array R8) (w:World) (hH:HoldsK R8.l 8 w b 0 d) (hb:b<w.heap.size) (hsz:d.size<4611686018427387904) :
  Calls Tryz.prog 197 #[.slice (some ⟨b,0,none⟩) d.size cap,.func (.func 198) #[] #[]] w fun e w'=>e = .returned (.tuple #[])/\∃ d':Array R8,d'.size=d.size/\d.toList.Perm d'.toList/\SortedIn (ltOf cfX) 0 d.size d'/\SWK R8.l 8 w b 0 d' w':=by
 have eg:∀ args w,(callFunc 198 args).run Tryz.prog w = .ok (.enter 198 args) w:=enters_of Tryz.func198 (by kernel_rfl) rfl;have hlim:Lib.bitLen d.size<4611686018427387904:=Nat.lt_of_le_of_lt (Lib.bitLen_le d.size 62 aw aw) aw;have hp:=AnyQ.pdqsortCmpFunc_all Tryz.pdqL 8 agg102 size102 R8.l cfX 198 #[] Qx b 0 cap d w eg (Mv hf b 0 d.size w) ⟨fun x=>x.hl,fun x=>x.h1,hH,hb⟩ (d.size+1) 0 d.size (Lib.bitLen d.size) d w aw rfl (SWK.start hH) (Nat.zero_le _) (ay _) hsz hlim (Or.inl rfl);have hl:Calls Tryz.prog 220 #[.int .u64 (d.size:Int)] w fun e w'=>e = .returned (.int .i64 (Lib.bitLen d.size:Nat))/\w'=w:=by
  have h:=Any.bits_Len (SlLaysF0.n15.bits Tryz.lenL) (d.size:Int) w aw aw;rw[Int.toNat_natCast]at h;exact h
 have wr:IntKind.u64.wrap (d.size:Int)=d.size:=by simp[IntKind.wrap,IntKind.bits,IntKind.signed];omega
 have hs:=pdq_sorts (ltOf cfX) Qx d 0 d.size (Lib.bitLen d.size) true true (Nat.zero_le _) (ay _) (Or.inl rfl);generalize pdq (ltOf cfX) d 0 d.size (Lib.bitLen d.size) true true=d' at hp hs
 change Calls Tryz.prog 219 _ _ _ at hp
 clear hH hf
 go_enter Tryz.func197,Tryz.ntmps197
 go_wp2_with (first|(go_at_call 220;refine hl.mono ?_;rintro e w' ⟨rfl,rfl⟩)|(go_at_call 219;refine hp.mono ?_;rintro e w' ⟨rfl,h1⟩))
 go_end0
 refine⟨rfl,d',hs.1.1,?_,hs.2,h1⟩;have h2:=hs.1.2.2;rw[show d'.extract 0 d.size=d' from Array.extract_eq_self_of_le (Nat.le_of_eq hs.1.1),show d.extract 0 d.size=d from Array.extract_eq_self_of_le (ay _)]at h2;exact h2.symm
end Go.AM
namespace Go.AM
open Go.Proofs
theorem ti_3:tinfo Tryz.prog 3=some ⟨false,1,8,some [C.v (Value.int IntKind.i64 0)],none,none,[]⟩:=av
theorem ti_4:tinfo Tryz.prog 4=some ⟨false,1,1,some [C.v (Value.bool false)],none,none,[]⟩:=av
theorem ti_5:tinfo Tryz.prog 5=some ⟨false,1,1,some [C.v (Value.int IntKind.u8 0)],none,none,[]⟩:=av
theorem Qr:tinfo Tryz.prog 24=some ⟨false,1,24,some [C.lst []],some 44,none,[]⟩:=av
theorem Qq:tinfo Tryz.prog 25=some ⟨false,1,24,some [C.lst []],some 44,none,[]⟩:=av
theorem Qp:tinfo Tryz.prog 37=some ⟨false,1,24,some [C.lst []],some 124,none,[]⟩:=av
theorem Qo:tinfo Tryz.prog 39=some ⟨true,2,48,some [C.lst [],C.lst []],none,none,[(0,37),(1,37)]⟩:=av
theorem Qn:tinfo Tryz.prog 41=some ⟨false,1,24,some [C.lst []],some 102,none,[]⟩:=av
theorem Qm:tinfo Tryz.prog 42=some ⟨false,1,24,some [C.lst []],some 102,none,[]⟩:=av
theorem Ql:tinfo Tryz.prog 44=some ⟨true,2,48,some [C.lst [],C.lst []],none,none,[(0,42),(1,42)]⟩:=av
theorem Qk:tinfo Tryz.prog 48=some ⟨true,3,3,some [C.v (Value.int IntKind.u8 0),C.v (Value.int IntKind.u8 0),C.v (Value.int IntKind.u8 0)],none,some (3,5),[]⟩:=av
theorem Qj:tinfo Tryz.prog 50=some ⟨false,1,24,some [C.lst []],some 53,none,[]⟩:=av
theorem Qi:tinfo Tryz.prog 53=some ⟨true,2,32,some [C.lst [],C.v (Value.int IntKind.i64 0)],none,none,[(0,25),(1,3)]⟩:=av
theorem Qh:tinfo Tryz.prog 90=some ⟨false,1,24,some [C.lst []],some 141,none,[]⟩:=av
theorem Qg:tinfo Tryz.prog 92=some ⟨true,2,32,some [C.v (Value.bool false),C.lst []],none,none,[(0,4),(1,90)]⟩:=av
theorem Qf:tinfo Tryz.prog 94=some ⟨true,4,64,some [C.v (Value.bool false),C.lst [],C.v (Value.bool false),C.lst []],none,none,[(0,92),(2,92)]⟩:=av
theorem Qe:tinfo Tryz.prog 97=some ⟨false,1,1,some [C.v (Value.int IntKind.i8 0)],none,none,[]⟩:=av
theorem OD:tinfo Tryz.prog 100=some ⟨true,4,32,some [C.v (Value.int IntKind.i64 0),C.v (Value.int IntKind.i64 0),C.v (Value.int IntKind.i64 0),C.v (Value.int IntKind.i64 0)],none,some (4,3),[]⟩:=av
theorem OC:tinfo Tryz.prog 102=some ⟨true,8,96,some [C.v (Value.int IntKind.i64 0),C.v (Value.int IntKind.i64 0),C.v (Value.int IntKind.i64 0),C.v (Value.int IntKind.i64 0),C.v (Value.bool false),C.lst [],C.v (Value.bool false),C.lst []],none,none,[(0,100),(4,94)]⟩:=av
theorem OB:tinfo Tryz.prog 104=some ⟨false,1,24,some [C.lst []],some 42,none,[]⟩:=av
theorem OA:tinfo Tryz.prog 124=some ⟨true,5,5,some [C.v (Value.int IntKind.i8 0),C.v (Value.int IntKind.i8 0),C.v (Value.int IntKind.i8 0),C.v (Value.int IntKind.i8 0),C.v (Value.int IntKind.i8 0)],none,some (5,97),[]⟩:=av
theorem Oz:tinfo Tryz.prog 141=some ⟨false,1,4,some [C.v (Value.int IntKind.u32 0)],none,none,[]⟩:=av
theorem Oy:tinfo Tryz.prog 144=some ⟨false,1,8,some [C.v (Value.int IntKind.u64 0)],none,none,[]⟩:=av
theorem Ox:tinfo Tryz.prog 160=some ⟨false,1,24,some [C.lst []],some 144,none,[]⟩:=av
theorem un_2:Program.underlying Tryz.prog 2=some (TypeDesc.int IntKind.i64):=av
theorem un_3:Program.underlying Tryz.prog 3=some (TypeDesc.int IntKind.i64):=av
theorem un_4:Program.underlying Tryz.prog 4=some TypeDesc.bool:=av
theorem un_5:Program.underlying Tryz.prog 5=some (TypeDesc.int IntKind.u8):=av
theorem Qc:Program.underlying Tryz.prog 97=some (TypeDesc.int IntKind.i8):=av
theorem Ol:Program.underlying Tryz.prog 117=some (TypeDesc.int IntKind.u64):=av
theorem Ok:Program.underlying Tryz.prog 141=some (TypeDesc.int IntKind.u32):=av
theorem Oj:Program.underlying Tryz.prog 144=some (TypeDesc.int IntKind.u64):=av
attribute [go_sem] ti_3 ti_4 ti_5 Qr Qq Qp Qo Qn Qm Ql Qk Qj Qi Qh Qg Qf Qe OD OC OB OA Oz Oy Ox un_2 un_3 un_4 un_5 Qc Ol Ok Oj
end Go.AM
