/- Lemmas, part 16 of 23. No condition. -/
import Derived.Test.YtcmfkhicjhliaaaGreatPZ514
set_option maxRecDepth 65536
set_option linter.unusedSimpArgs false
set_option linter.unusedVariables false
set_option linter.unusedSectionVars false
namespace Go.AM
def YAt (P:Program) (l:Nat) (args:Array Value) (W:World) (R:Ending->World->Prop):Prop :=
 ∃ fn tmps assign body,(Instr.yield l args).run P W = .ok (.round l fn tmps assign body) W/\RoundIn (fen none) 0 P l fn tmps assign body W R
structure EG (M:Nat->Prop) (bs:List Nat) (u u':World):Prop where
 os:u'.os=u.os
 tape:u'.tape=u.tape
 output:u'.output=u.output
 size:u.heap.size<=u'.heap.size
 drawn:u.drawn<=u'.drawn
 block:∀ b,b<u.heap.size->b ∉ bs->u'.heap[b]?=u.heap[b]?
 box:∀ b∈bs,∃ cs,oV u' M b cs
def A9 (M:Nat->Prop) (bs:List Nat) (u u':World):Prop:=u.heap.size<=u'.heap.size/\∀ b,b<u.heap.size->(¬ M b\/b∈bs)->u'.heap[b]?=u.heap[b]?
def KA (P:Program) (gf:Nat) (css:List (List C)) (L:List (List IV)):Prop :=
 n8 P gf/\∀(l:Nat) (w:World) (M:Nat->Prop) (bs:List Nat) (J:Option Nat->World->Prop),bs.Nodup->bs.length=css.length->(∀(i b:Nat) cs,bs[i]?=some b->css[i]?=some cs->oV w M b cs)->(∀ b∈bs,M b)->(∀ b,M b->b<w.heap.size) ->
  (∀ k u u',J k u->EG M bs u u'->J k u') ->
  (∀ k u x vs,J (some k) u->L[k]?=some x->cV u M x vs->YAt P l vs.toArray u fun e u'=>A9 M bs u u'/\((e = .returned (.bool true)/\J (some (k+1)) u')\/(e = .returned (.bool false)/\J none u'))) ->
  J (some 0) w->Calls P gf (Value.func (.yield l) #[] #[]::bs.map bpt).toArray w fun e w'=>(∃ v,e = .returned v)/\(J (some L.length) w'\/J none w')
structure vy where
 l:Nat
 M:Nat->Prop
 bs:List Nat
 J:Option Nat->World->Prop
 N:Nat
 L:List (List IV)
structure vy.OK (P:Program) (c:vy):Prop where
 nd:c.bs.Nodup
 sub:∀ b∈c.bs,c.M b
 stab:∀ k u u',c.J k u->EG c.M c.bs u u'->c.J k u'
 yield:∀ k u x vs,c.J (some k) u->c.L[k]?=some x->cV u c.M x vs->YAt P c.l vs.toArray u fun e u'=>A9 c.M c.bs u u'/\((e = .returned (.bool true)/\c.J (some (k+1)) u')\/(e = .returned (.bool false)/\c.J none u'))
def xI (bs:List Nat) (b:Nat):Option Key:=(bs.idxOf? b).map fun i => .b (1000+i)
def gI (bs:List Nat):Gh:={ A:=fun t=>bs.getD (t-1000) 0,E:=fun _=>none,cap:=fun _=>0,Q:=fun _=>0,own:=xI bs }
def lone (n:Nat) (st:St):Prop:=(∀ t,0<(st.b t).gen->1000<=t/\t<1000+n/\(st.b t).gen=1)/\(∀ t,(st.e t).gen=0)/\∀ t,(st.p t).gen=0
abbrev vy.M0 (c:vy) (b:Nat):Prop:=c.M b/\b ∉ c.bs
structure mW (c:vy) (k:Option Nat) (st:St) (u:World) (a:Act):Prop where
 sim:Sim ⟨u,xI c.bs,[]⟩ c.M0 c.N st (gI c.bs) u a
 lone:lone c.bs.length st
 lt:∀ b,c.M b->b<u.heap.size
 J:c.J k u
theorem Dx {bs:List Nat} {b t:Nat} (h:xI bs b=some (.b t)):∃ i,t=1000+i/\bs[i]?=some b:=by
 unfold xI at h;cases hi:bs.idxOf? b with
 | none=>simp[hi]at h
 | some i =>
  simp only[hi,Option.map_some,Option.some.injEq,Key.b.injEq]at h;exact⟨i,h.symm,eP hi⟩
theorem lY {bs:List Nat} {b:Nat} (h:xI bs b≠none):b∈bs:=by
 unfold xI at h;cases hi:bs.idxOf? b with
 | none=>simp[hi]at h
 | some i=>exact List.mem_of_getElem? (eP hi)
theorem jE {bs:List Nat} (hnd:bs.Nodup) {b:Nat} (h:b∈bs):∃ i,bs[i]?=some b/\xI bs b=some (.b (1000+i)):=by
 obtain⟨i,hi,e⟩:=List.getElem_of_mem h;have h':bs[i]?=some b:=by rw[aD hi,e]
 exact⟨i,h',by unfold xI;rw[eG hnd h'];rfl⟩
theorem sV {bs:List Nat} {b:Nat} (h:b ∉ bs):xI bs b=none:=by
 cases e:xI bs b with
 | none=>rfl
 | some k=>exact absurd (lY (by simp[e])) h
theorem Jn {bs:List Nat} {i b:Nat} (h:bs[i]?=some b):(gI bs).A (1000+i)=b:=by
 simp only[gI,Nat.add_sub_cancel_left,List.getD,h,Option.getD_some]
theorem Mb {c:vy} (hs:∀ b∈c.bs,c.M b) (hnd:c.bs.Nodup) (b:Nat):(gI c.bs).M c.M0 b↔c.M b:=by
 constructor
 ·rintro (h|h)
  ·exact h.1
  ·exact hs b (lY h)
 ·intro h;by_cases hb:b∈c.bs
  ·obtain⟨i,-,e⟩:=jE hnd hb;exact .inr (by show xI c.bs b≠none;simp[e])
  ·exact .inl ⟨h,hb⟩
section
variable {P:Program} {c:vy} {k:Option Nat} {st:St} {u u':World} {a:Act} {kind:FuncId->CK}
theorem aY.less {w:World} {M M':Nat->Prop} (h:∀ b,M' b->M b) {cs:List C} {ys:List Value} (hr:aY w M cs ys):aY w M' cs ys :=
 aY.mono ⟨ay _,fun _ _ hx=>⟨fun hm=>hx (h _ hm),rfl⟩⟩ _ _ hr
theorem mW.piece (hc:c.OK P) (hlt:∀ b,c.M b->b<u.heap.size) (hJ:c.J k u) {st':St} {G':Gh} {a':Act} (S:Sim ⟨u,xI c.bs,[]⟩ c.M0 c.N st' G' u' a') (hl:AM.lone c.bs.length st'):mW c k st' u' a':=by
 have hlt':∀ b,c.M b->b<u'.heap.size:=fun b h=>Nat.lt_of_lt_of_le (hlt b h) S.le;have hA:∀ i b:Nat,c.bs[i]?=some b->0<(st'.b (1000+i)).gen/\G'.A (1000+i)=b:=fun i b h=>by
  obtain⟨j,hj,e⟩:=jE hc.nd (List.mem_of_getElem? h);obtain rfl:i=j:=by
   have h1:=eG hc.nd h;have h2:=eG hc.nd hj;rw[h1]at h2;exact Option.some.inj h2
  obtain⟨h1,h2⟩:=S.lkb b _ e;exact⟨aw,h2 (hl.1 _ aw).2.2⟩
 have hM:∀ b,(gI c.bs).M c.M0 b->G'.M c.M0 b:=by
  rintro b (h|h)
  ·exact .inl h
  ·obtain⟨i,hi,-⟩:=jE hc.nd (lY h);obtain⟨h1,h2⟩:=hA i b hi;have:=(S.bx _ h1).1;rw[h2]at this;exact .inr (by simp[this])
 have hk:bE u' (G'.M c.M0) u' ((gI c.bs).M c.M0):=⟨ay _,fun b _ h=>⟨fun h'=>h (hM b h'),rfl⟩⟩;have hAt:∀ t,0<(st'.b t).gen->∃ i b,t=1000+i/\c.bs[i]?=some b/\(gI c.bs).A t=b/\G'.A t=b:=fun t ht=>by
  obtain⟨h1,h2,-⟩:=hl.1 t ht;obtain⟨i,rfl⟩:∃ i,t=1000+i:=⟨t-1000,aw⟩;have hi:c.bs[i]?=some c.bs[i]:=aD aw;exact⟨i,_,rfl,hi,Jn hi,(hA i _ hi).2⟩
 have hE:Evo st' G' st' (gI c.bs):=by
  refine⟨fun t g h=>⟨h,fun e pos=>⟨e,?_⟩⟩,fun t g h=>⟨h,fun e pos=>?_⟩,fun t g h=>⟨h,fun e pos=>?_⟩⟩
  ·obtain⟨i,b,-,-,h1,h2⟩:=hAt t aw;rw[h1,h2]
  ·have:=hl.2.1 t;omega
  ·have:=hl.2.2 t;omega
 refine⟨{ m0:=fun b h=>⟨hlt' b h.1,sV h.2⟩,lkb:=fun b t h=>?_,lkp:=fun b t h=>?_,defers:=?_,size:=S.size,below := .refl _ _,fr:=fun n=>(S.fr n).mono hk hE,bx:=fun t ht=>?_,en:=fun t ht=>?_,mp:=fun t ht=>?_,own:=fun b h=>?_ },hl,hlt',?_⟩
 ·obtain⟨i,rfl,hi⟩:=Dx h;exact⟨(S.lkb b _ h).1,fun _=>Jn hi⟩
 ·exfalso;have h':xI c.bs b=some (.p t):=h;obtain⟨i,-,e⟩:=jE hc.nd (lY (bs:=c.bs) (b:=b) (by rw[h'];simp));rw[e]at h';simp at h'
 ·have h1:a'.defers=[]:=S.defers.1;rw[h1];exact .nil rfl
 ·obtain⟨i,b,rfl,hi,h1,h2⟩:=hAt t ht;obtain⟨-,ys,T,h4,h5⟩:=S.bx _ ht;rw[h2]at h4;rw[h1];refine⟨?_,ys,T,h4,aY.mono hk _ _ h5⟩;show xI c.bs b=_;unfold xI;rw[eG hc.nd hi];rfl
 ·have:=hl.2.1 t;omega
 ·have:=hl.2.2 t;omega
 ·exact⟨.inr h,hlt' b (hc.sub b (lY h))⟩
 ·refine hc.stab k u u' hJ ⟨S.below.os,S.below.tape,S.below.output,S.below.size,S.below.drawn,fun b hb hn=>S.below.block b hb (sV hn),fun b hb=>?_⟩;obtain⟨i,hi,-⟩:=jE hc.nd hb;obtain⟨h1,h2⟩:=hA i b hi;obtain⟨-,ys,T,h4,h5⟩:=S.bx _ h1;rw[h2]at h4;exact⟨_,ys,T,h4,aY.less (fun x hx=>hM x ((Mb hc.sub hc.nd x).2 hx)) h5⟩
theorem mW.round (hc:c.OK P) (I:mW c k st u a) (hk:A9 c.M c.bs u u') {k':Option Nat} (hJ:c.J k' u'):mW c k' st u' a:=by
 have S:=I.sim;have hlt':∀ b,c.M b->b<u'.heap.size:=fun b h=>Nat.lt_of_lt_of_le (I.lt b h) hk.1;have hkk:bE u ((gI c.bs).M c.M0) u' ((gI c.bs).M c.M0):=⟨hk.1,fun b hb h=>⟨h,hk.2 b hb (.inl fun h'=>h ((Mb hc.sub hc.nd b).2 h'))⟩⟩;refine⟨{ m0:=fun b h=>⟨hlt' b h.1,sV h.2⟩,lkb:=S.lkb,lkp:=S.lkp,defers:=?_,size:=S.size,below := .refl _ _,fr:=fun n=>(S.fr n).mono hkk (Evo.refl _ _),bx:=fun t ht=>?_,en:=fun t ht=>?_,mp:=fun t ht=>?_,own:=fun b h=>?_ },I.lone,hlt',hJ⟩
 ·have h1:a.defers=[]:=S.defers.1;rw[h1];exact .nil rfl
 ·obtain⟨h1,ys,T,h4,h5⟩:=S.bx t ht;have hb:(gI c.bs).A t∈c.bs:=lY (b:=(gI c.bs).A t) (by show(gI c.bs).own _≠none;simp[h1]);exact⟨h1,ys,T,(hk.2 _ (I.lt _ (hc.sub _ hb)) (.inr hb)).trans h4,aY.mono hkk _ _ h5⟩
 ·have:=I.lone.2.1 t;omega
 ·have:=I.lone.2.2 t;omega
 ·exact⟨.inr h,hlt' b (hc.sub b (lY h))⟩
def WPi (P:Program) (c:vy) (x:Code) (Q:bg->St->Option Nat->Prop) (st:St) (k:Option Nat):Prop :=
 ∀ u a,mW c k st u a->(∀ d∈asg x,d<c.N)->x.wpIn (fen none) 0 P (fun e a' u'=>∃ y st' k',bz e=some y/\Q y st' k'/\mW c k' st' u' a') a u
theorem WPi.piece (hc:c.OK P) {x:Code} {Q:bg->St->Option Nat->Prop} (h:CW P kind x (fun e s=>lone c.bs.length s/\Q e s k) st):WPi P c x Q st k:=fun u a I hd =>
 wpIn_mono (bQ x h none _ _ _ _ u a I.sim hd) fun _ _ _ ⟨y,st',_,h1,⟨h2,h3⟩,h4⟩=>⟨y,st',k,h1,h3,mW.piece hc I.lt I.J h4 h2⟩
theorem WPi.mono {x:Code} {Q Q':bg->St->Option Nat->Prop} (h:WPi P c x Q st k) (hq:∀ e s k,Q e s k->Q' e s k):WPi P c x Q' st k:=fun u a I hd =>
 wpIn_mono (h u a I hd) fun _ _ _ ⟨y,st',k',h1,h2,h3⟩=>⟨y,st',k',h1,hq _ _ _ h2,h3⟩
def Nv (K:St->Option Nat->Prop) (Q:bg->St->Option Nat->Prop):bg->St->Option Nat->Prop
 | .normal,s,k=>K s k
 | e,s,k=>Q e s k
theorem WPi.seq {x y:Code} {Q:bg->St->Option Nat->Prop} (h:WPi P c x (Nv (WPi P c y Q) Q) st k):WPi P c (.seq x y) Q st k:=fun u a I hd=>by
 refine wpIn_seq (wpIn_mono (h u a I fun d hdm=>hd d (by simp[asg,hdm])) ?_);rintro e a' w' ⟨x',st',k',h1,h2,h3⟩;cases e with
 | normal=>cases h1;exact h2 w' a' h3 fun d hdm=>hd d (by simp[asg,hdm])
 | exit id=>cases h1;exact⟨_,st',k',rfl,h2,h3⟩
 | ret=>cases h1;exact⟨_,st',k',rfl,h2,h3⟩
 | goto l=>simp[bz]at h1
 | panic l=>simp[bz]at h1
 | outgrown=>simp[bz]at h1
def JQ (id:Nat) (Q:bg->St->Option Nat->Prop):bg->St->Option Nat->Prop
 | .exit id',s,k=>if id'=id then Q .normal s k else Q (.exit id') s k
 | e,s,k=>Q e s k
theorem WPi.block {x:Code} {Q:bg->St->Option Nat->Prop} {id:Nat} (h:WPi P c x (JQ id Q) st k):WPi P c (.block id x) Q st k:=fun u a I hd=>by
 refine wpIn_block (wpIn_mono (h u a I hd) ?_);rintro e a' w' ⟨x',st',k',h1,h2,h3⟩;cases e with
 | exit id' =>
  cases h1;simp only[Exit.inBlock];simp only[JQ]at h2;split at h2
  ·rename_i e;rw[if_pos e];exact⟨_,st',k',rfl,h2,h3⟩
  ·rename_i e;rw[if_neg e];exact⟨_,st',k',rfl,h2,h3⟩
 | normal=>cases h1;exact⟨_,st',k',rfl,h2,h3⟩
 | ret=>cases h1;exact⟨_,st',k',rfl,h2,h3⟩
 | goto l=>simp[bz]at h1
 | panic l=>simp[bz]at h1
 | outgrown=>simp[bz]at h1
theorem WPi.loop {x:Code} {Q:bg->St->Option Nat->Prop} (I:Nat->St->Option Nat->Prop) {n:Nat} (h0:I n st k)
  (round:∀ n s k,I n s k->WPi P c x (Nv (fun s' k'=>∃ m,m<n/\I m s' k') Q) s k):WPi P c (.loop x) Q st k:=fun u a S hd=>by
 suffices H:∀ n (s:St) k u a,I n s k->mW c k s u a->(Code.loop x).wpIn (fen none) 0 P (fun e a' w'=>∃ y st' k',bz e=some y/\Q y st' k'/\mW c k' st' w' a') a u from H n st k u a h0 S
 intro n s k u a hI S;refine wpIn_loop (fun a w=>∃ n s k,I n s k/\mW c k s w a) (fun a w=>by
  classical
  exact if h:∃ n,∃ s k,I n s k/\mW c k s w a then least h else 0) ⟨n,s,k,hI,S⟩ ?_
 intro a w hex;have hex':∃ n,∃ s k,I n s k/\mW c k s w a:=hex;obtain⟨s,k,hI,S⟩:=uz hex';refine wpIn_mono (round _ s k hI w a S hd) ?_;rintro e a' w' ⟨x',st',k',h1,h2,h3⟩;cases e with
 | normal =>
  cases h1;obtain⟨m,hm,hI'⟩:=h2;have hex2:∃ n,∃ s k,I n s k/\mW c k s w' a':=⟨m,st',k',hI',h3⟩;refine⟨hex2,?_⟩;simp only[dif_pos hex',dif_pos hex2];exact Nat.lt_of_le_of_lt (Aa hex2 ⟨st',k',hI',h3⟩) hm
 | exit id=>cases h1;exact⟨_,st',k',rfl,h2,h3⟩
 | ret=>cases h1;exact⟨_,st',k',rfl,h2,h3⟩
 | goto l=>simp[bz]at h1
 | panic l=>simp[bz]at h1
 | outgrown=>simp[bz]at h1
theorem mG {ρ:Option Nat} {W0:cW} {M0:Nat->Prop} {N:Nat} {Q:Exit->Act->World->Prop} {K:St->Prop} {ops:Array Oper} (hN:∀(i:Nat) o,ops[i]?=some o->∀ d,o.dst=some d->d<N) (rest:List Nat):∀(l:List Oper) (k:Nat) {st:St} {G:Gh} {w:World} {a:Act},(∀ i,i<l.length->l[i]?=ops[k+i]?) ->
  Sim W0 M0 N st G w a->kw P kind ops l K st->(∀ a' w',Met W0 M0 N K a' w'->wpOpsIn (fen ρ) 0 P ops Q rest a' w')->wpOpsIn (fen ρ) 0 P ops Q (List.range' k l.length++rest) a w
 | [],k,st,G,w,a,_,S,h,hQ=>by
  simp only[List.length_nil,List.range'_zero,List.nil_append];exact hQ _ _ ⟨st,G,h,S⟩
 | o::l,k,st,G,w,a,hl,S,h,hQ=>by
  have h0:ops[k]?=some o:=by have:=hl 0 au;simpa using this.symm
  have hl':∀ i,i<l.length->l[i]?=ops[k+1+i]?:=fun i hi=>by have:=hl (i+1) (by simpa using hi);simpa [Nat.add_assoc,Nat.add_comm 1]using this
  simp only[List.length_cons,List.range'_succ,List.cons_append];rw[wpOpsIn_cons];simp only[wpOpIn,h0];obtain⟨t,hg,ht,hf⟩:=h;rw[gX S hg];cases t with
  | true =>
   simp only[if_true];obtain⟨G2,S2⟩:=sg kind o.op st W0 M0 N G w a S;refine cn (pG (ht rfl)) (Oper.wp_mono ?_ (iG (Q:=Q) S2 (hN k o h0) (ht rfl)));rintro a' w' ⟨st',_,hK,hS⟩;exact mG hN rest l (k+1) hl' hS hK hQ
  | false =>
   simp only[Bool.false_eq_true,if_false];exact⟨fun _ _=>trivial,mG hN rest l (k+1) hl' (jV S (hN k o h0)) (hf rfl) hQ⟩
theorem WPi.yreg' (hc:c.OK P) (kind:FuncId->CK) {Q:bg->St->Option Nat->Prop} {id n:Nat} {ops:List Oper} {o:Oper} {tf:Operand} {xs:Array Operand} {ty:Array TypeId} {d:Tmp} (hn:ops[n]?=some o) (ho:o.op = .call ⟨.value tf,xs,ty⟩) (hd:o.dst=some d)
  (h:kw P kind ops.toArray (ops.take n) (fun s=>lone c.bs.length s/\∃ t,gd ops.toArray s o=some t /\
   (t=true->s.ev tf=sc (.func (.yield c.l) #[] #[])/\∃ x j,eF (fun x=>s.toIV (s.ev x)) xs.toList=some x/\k=some j/\c.L[j]?=some x /\
    kw P kind ops.toArray (ops.drop (n+1)) (fun s'=>lone c.bs.length s'/\Q .normal s' (some (j+1))) (s.put (some d) (sc (.bool true))) /\
    kw P kind ops.toArray (ops.drop (n+1)) (fun s'=>lone c.bs.length s'/\Q .normal s' none) (s.put (some d) (sc (.bool false)))) /\
   (t=false->kw P kind ops.toArray (ops.drop (n+1)) (fun s'=>lone c.bs.length s'/\Q .normal s' k) (s.put (some d) (.tup [])))) st):WPi P c (.region id ops.toArray false) Q st k:=by
 intro u a I hdd;refine wpIn_region ?_;have hnl:n<ops.length:=(List.getElem?_eq_some_iff.1 hn).1;have hN:=dW hdd;have hsz:List.range ops.toArray.size=List.range' 0 (ops.take n).length++n::List.range' (n+1) (ops.drop (n+1)).length:=by
  rw[List.range_eq_range',List.length_take,List.length_drop,List.size_toArray,Nat.min_eq_left aw];have e1:ops.length=n+(ops.length-n):=aw;have e2:ops.length-n=(ops.length-(n+1))+1:=aw
  conv=>lhs;rw[e1,<-List.range'_append_1,Nat.zero_add,e2,List.range'_succ]
 rw[hsz];have hpost:∀{u1:World} {a1:Act} {s1:St} {G1:Gh} {k':Option Nat} {u0:World},(∀ b,c.M b->b<u0.heap.size)->c.J k' u0->Sim ⟨u0,xI c.bs,[]⟩ c.M0 c.N s1 G1 u1 a1 ->
   kw P kind ops.toArray (ops.drop (n+1)) (fun s'=>lone c.bs.length s'/\Q .normal s' k') s1->wpOpsIn (fen none) 0 P ops.toArray (fun e a' u'=>∃ y st' k',bz e=some y/\Q y st' k'/\mW c k' st' u' a') (List.range' (n+1) (ops.drop (n+1)).length) a1 u1:=by
  intro u1 a1 s1 G1 k' u0 hlt hJ S1 hw;refine fL hN (ops.drop (n+1)) (n+1) (fun i=>by simp) S1 hw ?_;rintro a' u' ⟨s',G',⟨h1,h2⟩,S'⟩;exact⟨.normal,s',k',rfl,h2,mW.piece hc hlt hJ S' h1⟩
 refine mG hN _ (ops.take n) 0 (fun i hi=>?_) I.sim h ?_
 ·rw[List.length_take]at hi;rw[List.getElem?_take,if_pos aw];simp
 rintro a1 u1 ⟨s1,G1,⟨hl1,t,hg,ht,hf⟩,S1⟩;have hno:ops.toArray[n]?=some o:=by simpa using hn
 rw[wpOpsIn_cons];simp only[wpOpIn,hno];rw[gX S1 hg];cases t with
 | false =>
  simp only[Bool.false_eq_true,if_false];exact⟨fun _ _=>trivial,hpost I.lt I.J (by rw[<-hd];exact jV S1 (hN n o hno)) (hf rfl)⟩
 | true =>
  simp only[if_true];obtain⟨hev,x,j,hx,rfl,hL,hw1,hw2⟩:=ht rfl;have I1:=mW.piece hc I.lt I.J S1 hl1;have hfv:=S1.ev tf;rw[hev]at hfv;have hfv':=jW hfv;have hargs:=nW I1.sim (l:=xs.toList) (xs:=x) (by rw[<-hx]);have hargs':cV u1 c.M x (xs.toList.map a1.eval):=cV.mono ⟨ay _,fun b _ hb=>⟨fun hm=>hb ((Mb hc.sub hc.nd b).2 hm),rfl⟩⟩ hargs;obtain⟨fn,tmps,assign,body,hy,hR⟩:=hc.yield j u1 x _ I1.J hL hargs';have hrun:(execOp a1.eval o).run P u1 = .ok (.round c.l fn tmps assign body) u1:=by
   simp only[execOp,ho,resolve,hfv',Deferred.ofValue,pure_bind,invoke];have:(#[]++Array.map a1.eval xs)=(xs.toList.map a1.eval).toArray:=by
    apply Array.ext';simp
   rw[this];exact hy
  refine⟨fun _ _=>trivial,?_⟩;rw[Oper.semAt_eq _ _ _ (by rw[ho];intro c h;cases h),hrun,Oper.uponIn_round];refine⟨fun h=>by simp[fen,Fence.wide]at h,hR.mono ?_⟩;rintro e u2 ⟨hk,(⟨rfl,hJ⟩|⟨rfl,hJ⟩)⟩
  ·have I2:=I1.round hc hk hJ;have S3:=I2.sim.put (dst:=some d) (y := .bool true) (v:=sc (.bool true)) (fun d' e=>by cases e;exact hN n o hno d hd) (bq.refl _ _) fun _=>t6 rfl;rw[<-hd]at S3;exact hpost I2.lt I2.J S3 (by rw[hd];exact hw1)
  ·have I2:=I1.round hc hk hJ;have S3:=I2.sim.put (dst:=some d) (y := .bool false) (v:=sc (.bool false)) (fun d' e=>by cases e;exact hN n o hno d hd) (bq.refl _ _) fun _=>t6 rfl;rw[<-hd]at S3;exact hpost I2.lt I2.J S3 (by rw[hd];exact hw2)
end
def dH (l:Nat) (css:List (List C)):St :=
 {t:=fun n=>match n with|0=>sc (.func (.yield l) #[] #[])|n+1=>if n<css.length then .bp (1000+n) 1 0 else .any
  b:=fun t=>if 1000<=t then(match css[t-1000]? with|some cs=>⟨1,cs⟩|none=>⟨0,[]⟩)else⟨0,[]⟩
  e:=fun _=>⟨0,0,[],false,false⟩
  p:=fun _=>{ gen:=0,kv:=[] } }
theorem pD {P:Program} {f:FuncId} {fn:Func} {x:Code} {nt:Nat} {css:List (List C)} {L:List (List IV)} (hf:P.funcs[f]?=some fn) (hb:fn.body=some x) (hr:fn.results = #[]) (hnt:fn.ntmps=nt)
  (hn : (fn.name == "runtime.NumGoroutine") = false) (hlen : css.length + 1 <= nt) (hasg : (asg x).all (fun d => Nat.blt d nt) = true)
  (h:∀ c:vy,c.OK P->c.bs.length=css.length->c.L=L->WPi P c x (fun e _ k=>(e = .normal\/e = .ret)/\(k=some L.length\/k=none)) (dH c.l css) (some 0)):KA P f css L:=by
 subst hnt;refine⟨⟨fn,x,hf,hb,hn⟩,fun l w M bs J hnd hbl hbx hsub hlt hstab hyield hJ=>?_⟩
 let c:vy:=⟨l,M,bs,J,fn.ntmps,L⟩
 have hc:c.OK P:=⟨hnd,hsub,hstab,hyield⟩;have hgen:∀ t,0<((dH l css).b t).gen->∃ i cs b,t=1000+i/\css[i]?=some cs/\bs[i]?=some b/\(dH l css).b t=⟨1,cs⟩:=fun t ht=>by
  simp only[dH]at ht ⊢;split at ht
  ·rename_i hge;obtain⟨i,rfl⟩:∃ i,t=1000+i:=⟨t-1000,aw⟩;rw[Nat.add_sub_cancel_left]at ht;cases hi:css[i]? with
   | none=>simp[hi]at ht
   | some cs =>
    have:=(List.getElem?_eq_some_iff.1 hi).1;refine⟨i,cs,bs[i]'aw,rfl,hi,aD aw,?_⟩;rw[if_pos hge,Nat.add_sub_cancel_left,hi]
  ·simp at ht
 have hgen':∀ i b,bs[i]?=some b->∃ cs,css[i]?=some cs/\(dH l css).b (1000+i)=⟨1,cs⟩:=fun i b hi=>by
  have:=(List.getElem?_eq_some_iff.1 hi).1;have hcs:css[i]?=some (css[i]'aw):=aD aw;exact⟨_,hcs,by simp only[dH,if_pos (by omega:1000<=1000+i),Nat.add_sub_cancel_left,hcs]⟩
 have I:mW c (some 0) (dH l css) w { tmps:=(Value.func (.yield l) #[] #[]::bs.map bpt).toArray++Array.replicate (fn.ntmps-(Value.func (.yield l) #[] #[]::bs.map bpt).toArray.size) undef,defers:=[] }:=by
  refine⟨{ m0:=fun b h=>⟨hlt b h.1,sV h.2⟩,lkb:=fun b t h=>?_,lkp:=fun b t h=>?_,defers := .nil rfl,size:=?_,below := .refl _ _,fr:=fun n=>?_,bx:=fun t ht=>?_,en:=fun t ht=>?_,mp:=fun t ht=>?_,own:=fun b h=>?_ },⟨fun t ht=>?_,fun _=>rfl,fun _=>rfl⟩,hlt,hJ⟩
  ·obtain⟨i,rfl,hi⟩:=Dx h;obtain⟨cs,-,e⟩:=hgen' i b hi;rw[e];exact⟨ay _,fun _=>Jn hi⟩
  ·exfalso;have h':xI bs b=some (.p t):=h;obtain⟨i,-,e⟩:=jE hnd (lY (bs:=bs) (b:=b) (by rw[h'];simp));rw[e]at h';simp at h'
  ·show _=fn.ntmps;simp;omega
  ·cases n with
   | zero =>
    have e:((Value.func (.yield l) #[] #[]::bs.map bpt).toArray++Array.replicate (fn.ntmps-(Value.func (.yield l) #[] #[]::bs.map bpt).toArray.size) undef).getD 0 undef=Value.func (.yield l) #[] #[]:=by
     rw[Array.getD_eq_getD_getElem?,Array.getElem?_append_left au];rfl
    show eH _ _ _ _ (sc _) _;rw[e];exact t6 rfl
   | succ n =>
    simp only[dH];split
    ·rename_i hlt;have hi:bs[n]?=some (bs[n]'aw):=aD aw;obtain⟨cs,-,e⟩:=hgen' n _ hi;refine⟨by show 1<=((dH l css).b (1000+n)).gen;rw[e];exact ay _,fun _ _=>?_⟩;show((Value.func (.yield l) #[] #[]::bs.map bpt).toArray++Array.replicate (fn.ntmps-(Value.func (.yield l) #[] #[]::bs.map bpt).toArray.size) undef).getD (n+1) undef=_;rw[Array.getD_eq_getD_getElem?,Array.getElem?_append_left ar];rw[Jn hi];simp[hi]
    ·trivial
  ·obtain⟨i,cs,b,rfl,hcs,hi,e⟩:=hgen t ht;obtain⟨ys,T,h1,h2⟩:=hbx i b cs hi hcs;rw[e,Jn hi];refine⟨?_,ys,T,h1,aY.less (fun x hx=>(Mb (c:=c) hsub hnd x).1 hx) h2⟩;show xI bs b=_;unfold xI;rw[eG hnd hi];rfl
  ·simp[dH]at ht
  ·simp[dH]at ht
  ·exact⟨.inr h,hlt b (hsub b (lY h))⟩
  ·obtain⟨i,cs,b,rfl,-,hi,e⟩:=hgen t ht;have:=(List.getElem?_eq_some_iff.1 hi).1;exact⟨aw,by show _<1000+bs.length;omega,by rw[e]⟩
 refine callsIn_wide.1 (callsIn_of_wp_marks (F:=Fence.wide) (n:=0) hf hb trivial (wpIn_mono (h c hc hbl rfl w _ I fun d hd=>?_) ?_))
 ·have:=(List.all_eq_true.1 hasg) d hd;simpa using this
 ·rintro e a' w' ⟨y,st',k',h1,⟨h2,h3⟩,I'⟩;have hend:LeavesInM Fence.wide 0 P fn a'.tmps (fun e w'=>(∃ v,e = .returned v)/\(J (some L.length) w'\/J none w')) a'.defers .returning w':=by
   have e0:a'.defers=[]:=I'.sim.defers.1;rw[e0];have hrun:(results fn a'.tmps).run P w' = .ok (.tuple #[]) w':=by simp[results,hr]
   refine⟨_,hrun,⟨_,rfl⟩,?_⟩;have hJ':=I'.J;rcases h3 with rfl|rfl
   ·exact .inl hJ'
   ·exact .inr hJ'
  cases e with
  | normal=>exact hend
  | ret=>exact hend
  | exit id=>simp[bz]at h1;subst h1;simp at h2
  | goto l=>simp[bz]at h1
  | panic l=>simp[bz]at h1
  | outgrown=>simp[bz]at h1
def WPn (P:Program) (x:Code) (Q:bg->St->Prop) (st:St):Prop :=
 ∀ W0 M0 N G w a,Sim W0 M0 N st G w a->(∀ d∈asg x,d<N)->x.wpIn (fen none) 0 P (fun e a' w'=>∃ y st' G' df,bz e=some y/\Q y st'/\Sim ⟨W0.w,W0.x,df⟩ M0 N st' G' w' a') a w
section
variable {P:Program} {st:St} {Q:bg->St->Prop}
theorem WPn.of_WP {x:Code} (h:WP P x Q st):WPn P x Q st:=fun W0 M0 N G w a S hd =>
 wpIn_mono (h none W0 M0 N G w a S hd) fun _ _ _ ⟨y,st',G',h1,h2,h3⟩=>⟨y,st',G',W0.df,h1,h2,h3⟩
theorem WPn.of_CW {x:Code} {kind:FuncId->CK} (h:CW P kind x Q st):WPn P x Q st := .of_WP (bQ x h)
theorem WPn.seq {x y:Code} (h:WPn P x (jl (WPn P y Q) Q) st):WPn P (.seq x y) Q st:=fun W0 M0 N G w a S hd=>by
 refine wpIn_seq (wpIn_mono (h W0 M0 N G w a S fun d hdm=>hd d (by simp[asg,hdm])) ?_);rintro e a' w' ⟨x',st',G',df,h1,h2,h3⟩;cases e with
 | normal=>cases h1;exact h2 ⟨W0.w,W0.x,df⟩ M0 N G' w' a' h3 fun d hdm=>hd d (by simp[asg,hdm])
 | exit id=>cases h1;exact⟨_,st',G',df,rfl,h2,h3⟩
 | ret=>cases h1;exact⟨_,st',G',df,rfl,h2,h3⟩
 | goto l=>simp[bz]at h1
 | panic l=>simp[bz]at h1
 | outgrown=>simp[bz]at h1
theorem WPn.block {x:Code} {id:Nat} (h:WPn P x (mF id Q) st):WPn P (.block id x) Q st:=fun W0 M0 N G w a S hd=>by
 refine wpIn_block (wpIn_mono (h W0 M0 N G w a S hd) ?_);rintro e a' w' ⟨x',st',G',df,h1,h2,h3⟩;cases e with
 | exit id' =>
  cases h1;simp only[Exit.inBlock];simp only[mF]at h2;split at h2
  ·rename_i e;rw[if_pos e];exact⟨_,st',G',df,rfl,h2,h3⟩
  ·rename_i e;rw[if_neg e];exact⟨_,st',G',df,rfl,h2,h3⟩
 | normal=>cases h1;exact⟨_,st',G',df,rfl,h2,h3⟩
 | ret=>cases h1;exact⟨_,st',G',df,rfl,h2,h3⟩
 | goto l=>simp[bz]at h1
 | panic l=>simp[bz]at h1
 | outgrown=>simp[bz]at h1
theorem WPn.weak {x:Code} {st':St} (hw:bA st st') (h:WPn P x Q st'):WPn P x Q st:=fun W0 M0 N G w a S hd=>by
 obtain⟨G',S'⟩:=hw W0 M0 N G w a S;exact h W0 M0 N G' w a S' hd
theorem oI {f:FuncId} {fn:Func} {c:Code} {rl:List ResultVar} {nt:Nat} {args res:List IV} (hf:P.funcs[f]?=some fn) (hb:fn.body=some c) (hr:fn.results=⟨rl⟩) (hnt:fn.ntmps=nt)
  (hn : (fn.name == "runtime.NumGoroutine") = false) (hlen : args.length <= nt) (hasg : (asg c).all (fun d => Nat.blt d nt) = true) (h : WPn P c (Mm P rl res) (iy args)) : Fn P f args res := by
 subst hnt;refine⟨⟨fn,c,hf,hb,hn⟩,fun w M vs hm hrs=>?_⟩;refine callsIn_wide.1 (callsIn_of_wp_marks (F:=Fence.wide) (n:=0) hf hb trivial (wpIn_mono (h (.of w) M fn.ntmps g0 w _ (qi hm hrs hlen) fun d hd=>?_) ?_))
 ·have:=(List.all_eq_true.1 hasg) d hd;simpa using this
 ·rintro e a' w' ⟨x,st',G',df,h1,⟨h2,h3⟩,S⟩;have hend:LeavesInM Fence.wide 0 P fn a'.tmps (fun e w'=>∃ y,e = .returned y/\yw w' M res y/\bq w.heap.size w w') a'.defers .returning w':=jZ S fun w' S=>by
   obtain⟨y,hy,hr'⟩:=se S (by rw[hr];exact h3);exact⟨y,hy,y,rfl,hr',cW.Bl.below (w:=w) ⟨S.below.os,S.below.tape,S.below.output,S.below.size,S.below.drawn,S.below.block⟩⟩
  cases e with
  | normal=>exact hend
  | ret=>exact hend
  | exit id=>simp[bz]at h1;subst h1;simp at h2
  | goto l=>simp[bz]at h1
  | panic l=>simp[bz]at h1
  | outgrown=>simp[bz]at h1
end
def setB (β:Nat->BX):List Nat->List (List C)->Nat->BX
 | h::H,c::cs=>upd (setB β H cs) h ⟨(β h).gen,c⟩
 | _,_=>β
theorem tY (β:Nat->BX):∀(H:List Nat) (cs:List (List C)) (t:Nat),(setB β H cs t).gen=(β t).gen
 | [],_,_=>rfl
 | _::_,[],_=>rfl
 | h::H,c::cs,t=>by
  simp only[setB];by_cases e:t=h
  ·subst e;rw[aN]
  ·rw[aT _ _ e];exact tY β H cs t
theorem iX (β:Nat->BX):∀(H:List Nat) (cs:List (List C)) {t:Nat},t ∉ H->setB β H cs t=β t
 | [],_,_,_=>rfl
 | _::_,[],_,_=>rfl
 | h::H,c::cs,t,ht=>by
  simp only[setB];rw[aT _ _ (fun e=>ht (by simp[e]))];exact iX β H cs fun h'=>ht (by simp[h'])
theorem nn (β:Nat->BX):∀(H:List Nat) (cs:List (List C)) {i t:Nat} {c:List C},H.Nodup->H[i]?=some t->cs[i]?=some c->setB β H cs t=⟨(β t).gen,c⟩
 | [],_,_,_,_,_,h,_=>by simp at h
 | _::_,[],_,_,_,_,_,h=>by simp at h
 | h::H,c0::cs,0,t,c,hnd,h1,h2=>by
  simp at h1 h2;subst h1 h2;simp only[setB,aN]
 | h::H,c0::cs,i+1,t,c,hnd,h1,h2=>by
  simp only[List.getElem?_cons_succ]at h1 h2;have hnd':=List.nodup_cons.1 hnd;simp only[setB];rw[aT _ _ (fun e=>hnd'.1 (by rw[<-e];exact List.mem_of_getElem? h1))];exact nn β H cs hnd'.2 h1 h2
theorem qT (β:Nat->BX):∀(H:List Nat),setB β H (H.map fun t=>(β t).cs)=β
 | []=>rfl
 | h::H=>by
  simp only[List.map_cons,setB];rw[qT β H];funext t;by_cases e:t=h
  ·subst e;rw[aN]
  ·rw[aT _ _ e]
def rtA (st:St) (H:List Nat):AV->AV
 | .i x => .i x
 | .fl rs => .fl rs
 | .ip cs => .ip cs
 | .tup xs => .tup xs
 | .bp t g off=>bif H.contains t && Nat.beq (st.b t).gen g && Nat.blt 0 g then .bp t 1 off else .any
 | _ => .any
def fe:List Nat->List (List C)->Nat->BX
 | h::H,c::cs=>upd (fe H cs) h ⟨1,c⟩
 | _,_=>fun _=>⟨0,[]⟩
theorem ue:∀(H:List Nat) (cs:List (List C)) {t:Nat},t ∉ H->fe H cs t=⟨0,[]⟩
 | [],_,_,_=>rfl
 | _::_,[],_,_=>rfl
 | h::H,c::cs,t,ht=>by
  simp only[fe];rw[aT _ _ (fun e=>ht (by simp[e]))];exact ue H cs fun h'=>ht (by simp[h'])
theorem uf:∀(H:List Nat) (cs:List (List C)) {i t:Nat} {c:List C},H.Nodup->H[i]?=some t->cs[i]?=some c->fe H cs t=⟨1,c⟩
 | [],_,_,_,_,_,h,_=>by simp at h
 | _::_,[],_,_,_,_,_,h=>by simp at h
 | h::H,c0::cs,0,t,c,hnd,h1,h2=>by
  simp at h1 h2;subst h1 h2;simp only[fe,aN]
 | h::H,c0::cs,i+1,t,c,hnd,h1,h2=>by
  simp only[List.getElem?_cons_succ]at h1 h2;have hnd':=List.nodup_cons.1 hnd;simp only[fe];rw[aT _ _ (fun e=>hnd'.1 (by rw[<-e];exact List.mem_of_getElem? h1))];exact uf H cs hnd'.2 h1 h2
def jm:List Nat->List IV->(Nat->AV)->Nat->AV
 | p::ps,x::xs,τ=>jm ps xs (upd τ p (.i x))
 | _,_,τ=>τ
def bV (st:St) (H:List Nat) (cs:List (List C)) (ps:List Nat) (x:List IV):St :=
 {t:=jm ps x (fun n=>rtA st H (st.t n)),b:=fe H cs,e:=fun _=>⟨0,0,[],false,false⟩,p:=fun _=>{ gen:=0,kv:=[] } }
section
variable {P:Program} {W0:cW} {M0:Nat->Prop} {N:Nat} {st:St} {G:Gh} {w u u':World} {a:Act}
theorem Sim.grow (S:Sim W0 M0 N st G w a) {w':World} (h:bq w.heap.size w w'):Sim W0 M0 N st G w' a :=
 S.put (dst:=none) (y:=undef) (v := .any) (fun _ h=>nomatch h) h (fun h=>(h rfl).elim)
theorem Sim.world (S:Sim W0 M0 N st G u a) {β':Nat->BX} (hbl:W0.Bl u u') (hk:∀ b,b<u.heap.size->¬ G.M M0 b->u'.heap[b]?=u.heap[b]?) (hgen:∀ t,(β' t).gen=(st.b t).gen)
  (hbox:∀ t,0<(st.b t).gen->oV u' (G.M M0) (G.A t) (β' t).cs) (hown:∀ b k,G.own b=some k->(∀ t,k ≠ .b t)->u'.heap[b]?=u.heap[b]?):Sim W0 M0 N { st with b:=β' } G u' a:=by
 have hkk:bE u (G.M M0) u' (G.M M0):=⟨hbl.size,fun b hb h=>⟨h,hk b hb h⟩⟩;refine S.next (st':={ st with b:=β' }) (dst:=none) (y:=undef) (v := .any) (fun _ h=>nomatch h) hbl hkk ?_ (fun _=>rfl) (fun h=>(h rfl).elim) ?_ ?_ ?_ ?_
 ·exact⟨fun t g h=>⟨by simp only[hgen];exact h,fun e _=>⟨by simpa only[hgen]using e,rfl⟩⟩,fun _ _ h=>⟨h,fun e _=>⟨e,rfl,rfl,rfl,ay _⟩⟩,fun _ _ h=>⟨h,fun e _=>⟨e,rfl,rfl⟩⟩⟩
 ·intro t ht;simp only[hgen]at ht;exact⟨(S.bx t ht).1,hbox t ht⟩
 ·intro t ht;exact mN.mono (G:=G) hkk rfl rfl (fun b h=>⟨h,hown b _ h au⟩) (S.en t ht)
 ·intro t ht;exact oN.mono (G:=G) hkk (fun _ _=>rfl) (fun b k _ h=>⟨h,hown b _ h au⟩) (S.mp t ht)
 ·exact fun b h=>⟨(S.own b h).1,Nat.lt_of_lt_of_le (S.own b h).2 hbl.size⟩
theorem F8 {M:Nat->Prop} {b l:Nat} {cs:List C} {o o':Obj} (h:w.heap[l]?=some o) (ho:∀ c t f,o ≠ .cells c t f) (ho':∀ c t f,o' ≠ .cells c t f) (hb:oV w M b cs):oV (w.putObj l o') M b cs:=by
 obtain⟨ys,T,h1,h2⟩:=hb;refine⟨ys,T,(World.putObj_heap_other fun e=>?_).trans h1,h2.off (pc h ho ho')⟩;subst e;rw[h1]at h;cases h;exact ho _ _ _ rfl
theorem Sim.putBase (S:Sim ⟨u,W0.x,W0.df⟩ M0 N st G w a) {l:Nat} {o o':Obj} (hx:W0.x l=none) (hlt:l<u.heap.size) (h:w.heap[l]?=some o) (ho:∀ c t f,o ≠ .cells c t f) (ho':∀ c t f,o' ≠ .cells c t f) (hd:W0.df=[]) :
  Sim ⟨u.putObj l o',W0.x,W0.df⟩ M0 N st G (w.putObj l o') a:=by
 have hf:=pc h ho ho';have hno:G.own l=none:=by
  cases e:G.own l with
  | none=>rfl
  | some k =>
   rcases (S.own l (by simp[e])).1 with h|h
   ·have:u.heap.size<=l:=h;omega
   ·exact absurd hx h
 have hne:∀ b':Nat,G.own b'≠none->(w.putObj l o').heap[b']?=w.heap[b']?:=fun b' h'=>World.putObj_heap_other fun e=>h' (by rw[e];exact hno);have hbl:=S.below;have hlw:l<w.heap.size:=(Array.getElem?_eq_some_iff.1 h).1;refine{ m0:=fun b h=>⟨by simpa using(S.m0 b h).1,(S.m0 b h).2⟩,lkb:=S.lkb,lkp:=S.lkp,defers:=?_,size:=S.size,below:=⟨hbl.os,hbl.tape,hbl.output,by simpa using hbl.size,hbl.drawn,fun k hk hx'=>?_⟩,fr:=fun n=>(S.fr n).off hf,bx:=fun t ht=>?_,en:=fun t ht=>?_,mp:=fun t ht=>?_,own:=fun b' hb'=>?_ }
 ·have:=S.defers.1;rw[this,hd];exact .nil rfl
 ·by_cases e:k=l
  ·subst e;rw[World.putObj_heap_same hlw,World.putObj_heap_same hlt]
  ·rw[World.putObj_heap_other e,World.putObj_heap_other e];exact hbl.block k (by simpa using hk) hx'
 ·obtain⟨h1,ys,T,h2,h3⟩:=S.bx t ht;exact⟨h1,ys,T,(hne _ (by simp[h1])).trans h2,h3.off hf⟩
 ·obtain⟨h1,h2,h3,h4⟩:=S.en t ht;refine⟨?_,h2,fun hm'=>?_,h4⟩
  ·rcases h1 with h1|⟨b',o1,e1,e2,e3,e4⟩
   ·exact .inl h1
   ·exact .inr ⟨b',o1,e1,by simpa using e2,e3,aS.off hf _ _ _ _ e4⟩
  ·obtain⟨b',ys,T,f1,f2,f3,f4⟩:=h3 hm';exact⟨b',ys,T,f1,f2,(hne _ (by simp[f2])).trans f3,f4⟩
 ·exact(S.mp t ht).off hf (fun k h=>hne _ (by simp[h]))
 ·have:=S.own b' hb';exact⟨this.1.imp (fun h=>by simpa using h) id,by simpa using this.2⟩
open Classical in
noncomputable def xR (G:Gh) (H:List Nat) (b:Nat):Option Key:=match G.own b with
 | some (.b t)=>if t∈H/\G.A t=b then some (.b t)else none
 | _=>none
theorem gH {H:List Nat} {b:Nat} {k:Key} (h:xR G H b=some k):∃ t,k = .b t/\t∈H/\G.A t=b/\G.own b=some (.b t):=by
 unfold xR at h;split at h
 ·rename_i t ht;split at h
  ·rename_i hh;exact⟨t,(Option.some.inj h).symm,hh.1,hh.2,ht⟩
  ·simp at h
 ·simp at h
theorem Ns {H:List Nat} {t:Nat} (ht:t∈H) (h:G.own (G.A t)=some (.b t)):xR G H (G.A t)=some (.b t):=by
 unfold xR;rw[h];exact if_pos ⟨ht,rfl⟩
noncomputable def gR (G:Gh) (H:List Nat):Gh:={ A:=G.A,E:=fun _=>none,cap:=fun _=>0,Q:=fun _=>0,own:=xR G H }
def mR (G:Gh) (M0:Nat->Prop) (H:List Nat) (b:Nat):Prop:=G.M M0 b/\xR G H b=none
theorem gR_M {H:List Nat} (b:Nat):(gR G H).M (mR G M0 H) b↔G.M M0 b:=by
 constructor
 ·rintro (h|h)
  ·exact h.1
  ·cases e:xR G H b with
   | none=>exact(h e).elim
   | some k=>obtain⟨t,-,-,-,h2⟩:=gH e;exact .inr (by simp[h2])
 ·intro h;by_cases e:xR G H b=none
  ·exact .inl ⟨h,e⟩
  ·exact .inr e
theorem wi {M:Nat->Prop} {st':St} {G':Gh}:∀(ps:List Nat) (x:List IV) (vs:List Value) (τ:Nat->AV) (tm:Array Value),cV u M x vs->(∀ p∈ps,p<N)->tm.size=N->(∀ n,eH u M st' G' (τ n) (tm.getD n undef)) ->
  ((ps.zip vs).foldl (fun t (p,v)=>t.setIfInBounds p v) tm).size=N/\∀ n,eH u M st' G' (jm ps x τ n) (((ps.zip vs).foldl (fun t (p,v)=>t.setIfInBounds p v) tm).getD n undef)
 | [],[],[],_,_,_,_,hs,h=>⟨hs,h⟩
 | [],_::_,_::_,_,_,_,_,hs,h=>⟨hs,h⟩
 | _::_,[],[],_,_,_,_,hs,h=>⟨hs,h⟩
 | _,[],_::_,_,_,h,_,_,_=>h.elim
 | _,_::_,[],_,_,h,_,_,_=>h.elim
 | p::ps,x::xs,v::vs,τ,tm,hr,hp,hs,h=>by
  have hp0:=hp p au;simp only[List.zip_cons_cons,List.foldl_cons,jm];refine wi ps xs vs _ _ hr.2 (fun q hq=>hp q (by simp[hq])) (by simpa using hs) fun n=>?_;by_cases e:n=p
  ·subst e;rw[aN];have:(tm.setIfInBounds n v).getD n undef=v:=by
    rw[Array.getD_eq_getD_getElem?,Array.getElem?_setIfInBounds];simp[hs,hp0]
   rw[this];exact hr.1
  ·rw[aT _ _ e];have:(tm.setIfInBounds p v).getD n undef=tm.getD n undef:=by
    rw[Array.getD_eq_getD_getElem?,Array.getD_eq_getD_getElem?,Array.getElem?_setIfInBounds_ne (fun e'=>e e'.symm)]
   rw[this];exact h n
theorem FR (S:Sim W0 M0 N st G u a) {st0:St} {H:List Nat} {cs:List (List C)} {ps:List Nat} {x:List IV} {vs:List Value} (ht0:st.t=st0.t) (hg0:∀ t,(st.b t).gen=(st0.b t).gen) (hnd:H.Nodup) (hcl:cs.length=H.length)
  (hH:∀(i t:Nat) c,H[i]?=some t->cs[i]?=some c->0<(st.b t).gen/\(st.b t).cs=c) (hr:cV u (G.M M0) x vs) (hp:∀ p∈ps,p<N) :
  Sim ⟨u,xR G H,[]⟩ (mR G M0 H) N (bV st0 H cs ps x) (gR G H) u { tmps:=(ps.zip vs).foldl (fun t (p,v)=>t.setIfInBounds p v) a.tmps,defers:=[] }:=by
 have hget:∀ t∈H,∃(i:Nat) (c:List C),H[i]?=some t/\cs[i]?=some c/\0<(st.b t).gen/\(st.b t).cs=c/\fe H cs t=⟨1,c⟩:=fun t ht=>by
  obtain⟨i,hi,e⟩:=List.getElem_of_mem ht;have h1:H[i]?=some t:=by rw[aD hi,e]
  have h2:cs[i]?=some (cs[i]'aw):=aD aw;obtain⟨h3,h4⟩:=hH i t _ h1 h2;exact⟨i,_,h1,h2,h3,h4,uf H cs hnd h1 h2⟩
 have hkk:bE u (G.M M0) u ((gR G H).M (mR G M0 H)):=⟨ay _,fun b _ h=>⟨fun h'=>h ((gR_M b).1 h'),rfl⟩⟩;have hown:∀ t∈H,G.own (G.A t)=some (.b t):=fun t ht=>by obtain⟨_,_,_,_,h,_⟩:=hget t ht;exact(S.bx t h).1
 have hfr:=wi (u:=u) (M:=(gR G H).M (mR G M0 H)) (st':=bV st0 H cs ps x) (G':=gR G H) ps x vs (fun n=>rtA st0 H (st0.t n)) a.tmps (hr.mono hkk) hp S.size (fun n=>by
  have hv:=S.fr n;rw[ht0]at hv;cases e:st0.t n with
  | i y=>rw[e]at hv;exact jc.mono hkk hv
  | fl rs=>rw[e]at hv;exact eH.mono (st:=st) (G:=G) (v := .fl rs) hkk (Evo.refl st G) hv
  | ip cs=>rw[e]at hv;exact eH.mono (st:=st) (G:=G) (v := .ip cs) hkk (Evo.refl st G) hv
  | tup xs=>rw[e]at hv;exact eH.mono (st:=st) (G:=G) (v := .tup xs) hkk (Evo.refl st G) hv
  | bp t g off =>
   rw[e]at hv;simp only[rtA];cases hh:H.contains t && Nat.beq (st0.b t).gen g && Nat.blt 0 g with
   | false=>trivial
   | true =>
    simp only[Bool.and_eq_true,List.contains_iff_mem,Nat.blt_eq]at hh;obtain⟨⟨h1,h2⟩,h3⟩:=hh
    replace h2:=Nat.eq_of_beq_eq_true h2
    obtain⟨i,c,h4,h5,h6,h7,h8⟩:=hget t h1;refine⟨by show 1<=(fe H cs t).gen;rw[h8];exact ay _,fun _ _=>?_⟩;exact hv.2 (by rw[hg0,h2]) h3
  | _=>trivial)
 refine{ m0:=fun b h=>⟨mbelow S b h.1,h.2⟩,lkb:=fun b t h=>?_,lkp:=fun b t h=>?_,defers := .nil rfl,size:=hfr.1,below := .refl _ _,fr:=hfr.2,bx:=fun t ht=>?_,en:=fun t ht=>?_,mp:=fun t ht=>?_,own:=fun b h=>?_ }
 ·obtain⟨t',e,h1,h2,-⟩:=gH h;cases e;obtain⟨i,c,-,-,-,-,h8⟩:=hget t h1;exact⟨by show 1<=(fe H cs t).gen;rw[h8];exact ay _,fun _=>h2⟩
 ·obtain⟨t',e,-⟩:=gH h;cases e
 ·have hm:t∈H:=by
   by_cases h:t∈H
   ·exact h
   ·exfalso;have:0<(fe H cs t).gen:=ht;rw[ue H cs h]at this;simp at this
  obtain⟨i,c,-,-,h6,h7,h8⟩:=hget t hm;obtain⟨h1,ys,T,h2,h3⟩:=S.bx t h6;refine⟨Ns hm h1,ys,T,h2,?_⟩;show aY _ _ (fe H cs t).cs _;rw[h8,<-h7];exact aY.mono hkk _ _ h3
 ·simp[bV]at ht
 ·simp[bV]at ht
 ·refine⟨.inr h,?_⟩;cases e:xR G H b with
  | none=>exact(h e).elim
  | some k=>obtain⟨t,-,-,-,h2⟩:=gH e;exact(S.own b (by simp[h2])).2
theorem FS (S:Sim W0 M0 N st G u a) {H:List Nat} {l:Nat} {o ob o':Obj} {s2:St} {G2:Gh} {w3:World} {a2:Act} {N2:Nat} {β':Nat->BX} (hl:u.heap[l]?=some o) (ho:∀ c t f,o ≠ .cells c t f) (hob:∀ c t f,ob ≠ .cells c t f) (ho':∀ c t f,o' ≠ .cells c t f) (hd:∀ b,o ≠ .deferred b)
  (hlm:¬ G.M M0 l) (hlw:W0.w.heap.size<=l) (S3:Sim ⟨u.putObj l ob,xR G H,[]⟩ (mR G M0 H) N2 s2 G2 w3 a2) (hHg:∀ t∈H,0<(st.b t).gen) (h1:∀ t∈H,(s2.b t).gen=1)
  (hgen:∀ t,(β' t).gen=(st.b t).gen) (hH:∀ t∈H,(β' t).cs=(s2.b t).cs) (hnH:∀ t,t ∉ H->(β' t).cs=(st.b t).cs) :
  (∀ b,b<u.heap.size->b≠l->xR G H b=none->(w3.putObj l o').heap[b]?=u.heap[b]?)/\w3.heap[l]?=some ob/\u.heap.size<=(w3.putObj l o').heap.size/\Sim W0 M0 N { st with b:=β' } G (w3.putObj l o') a:=by
 have hlt:l<u.heap.size:=(Array.getElem?_eq_some_iff.1 hl).1;have hxl:xR G H l=none:=by
  cases e:xR G H l with
  | none=>rfl
  | some k=>obtain⟨t,-,-,-,h2⟩:=gH e;exact(hlm (.inr (by simp[h2]))).elim
 have hlo:w3.heap[l]?=some ob:=(S3.below.block l (by simpa using hlt) hxl).trans (World.putObj_heap_same hlt);have hsz:u.heap.size<=w3.heap.size:=by have:=S3.below.size;simpa using this
 have hblk:∀ b,b<u.heap.size->b≠l->xR G H b=none->(w3.putObj l o').heap[b]?=u.heap[b]?:=fun b hb hn hx=>by
  rw[World.putObj_heap_other hn];exact(S3.below.block b (by simpa using hb) hx).trans (World.putObj_heap_other hn)
 have hxo:∀ b,G.own b=none->xR G H b=none:=fun b h=>by
  cases e:xR G H b with
  | none=>rfl
  | some k=>obtain⟨t,-,-,-,h2⟩:=gH e;rw[h]at h2;cases h2
 have hM2:∀ b,G.M M0 b->G2.M (mR G M0 H) b:=fun b h=>by
  by_cases e:xR G H b=none
  ·exact .inl ⟨h,e⟩
  ·cases e':xR G H b with
   | none=>exact(e e').elim
   | some k =>
    obtain⟨t,rfl,ht,hA,-⟩:=gH e';obtain⟨k1,k2⟩:=S3.lkb b t e';have:=(S3.bx t aw).1;rw[k2 (h1 t ht)]at this;exact .inr (by simp[this])
 refine⟨hblk,hlo,by simpa using hsz,?_⟩;have S':=S.putObj (ds:=a.defers) (df:=W0.df) (o':=o') hl ho ho' hlm (.inl hlw) (S.defers.imp fun b hb hm=>⟨(World.putObj_heap_other fun e=>by subst e;rw[hb]at hl;cases hl;exact hd _ rfl).trans hb,hm⟩);have S'':Sim W0 M0 N st G (u.putObj l o') a:=S';have hne:∀ b,b<u.heap.size->xR G H b=none->(w3.putObj l o').heap[b]?=(u.putObj l o').heap[b]?:=fun b hb hx=>by
  by_cases e:b=l
  ·subst e;rw[World.putObj_heap_same hlt,World.putObj_heap_same aw]
  ·rw[World.putObj_heap_other (w:=u) e];exact hblk b hb e hx
 have hnm:∀ b,¬ G.M M0 b->xR G H b=none:=fun b h=>hxo b (by
  cases e:G.own b with
  | none=>rfl
  | some k=>exact(h (.inr (by simp[e]))).elim)
 have hkk:bE (u.putObj l o') (G.M M0) (w3.putObj l o') (G.M M0):=⟨by simpa using hsz,fun b hb h=>⟨h,hne b (by simpa using hb) (hnm b h)⟩⟩;refine S''.world ⟨S3.below.os,S3.below.tape,S3.below.output,by simpa using hsz,S3.below.drawn,fun b hb hx=>?_⟩ (fun b hb h=>hne b (by simpa using hb) (hnm b h)) hgen (fun t ht=>?_) (fun b k hk hn=>?_)
 ·refine hne b (Nat.lt_of_lt_of_le hb S.le) (hxo b ?_);cases e:G.own b with
  | none=>rfl
  | some k =>
   rcases (S.own b (by simp[e])).1 with h|h
   ·omega
   ·exact(h hx).elim
 ·by_cases hm:t∈H
  ·have hx:=Ns hm (S.bx t ht).1;obtain⟨k1,k2⟩:=S3.lkb _ t hx;obtain⟨-,ys,T,k3,k4⟩:=S3.bx t aw;rw[k2 (h1 t hm)]at k3;rw[hH t hm];exact F8 hlo hob ho' ⟨ys,T,k3,aY.less hM2 k4⟩
  ·obtain⟨k1,ys,T,k2,k3⟩:=S''.bx t ht;have hx:xR G H (G.A t)=none:=by
    cases e:xR G H (G.A t)with
    | none=>rfl
    | some k =>
     obtain⟨t',-,ht',-,h2⟩:=gH e;rw[k1]at h2;cases h2;exact(hm ht').elim
   rw[hnH t hm];exact⟨ys,T,(hne _ (S.own _ (by simp[k1])).2 hx).trans k2,aY.mono hkk _ _ k3⟩
 ·refine hne b (S.own b (by simp[hk])).2 ?_;cases e:xR G H b with
  | none=>rfl
  | some k' =>
   obtain⟨t',-,-,-,h2⟩:=gH e;rw[hk]at h2;cases h2;exact(hn t' rfl).elim
end
def El:bg->Option Code
 | .exit id=>some (.exit id)
 | .ret=>some .ret
 | .normal=>none
def OM (H:List Nat) (I:List (List C)->Prop) (Ix:bg->List (List C)->Prop) (e:bg) (s:St):Prop :=
 (∀ t∈H,(s.b t).gen=1)/\match e with | .normal=>I (H.map fun t=>(s.b t).cs)|e=>Ix e (H.map fun t=>(s.b t).cs)
section
variable {P:Program}
theorem WPn.rangeFunc {g:Operand} {ps:Array Nat} {assign body:Code} {Q:bg->St->Prop} {st:St} {gf:Nat} {ts:List (Nat×Nat)} {css:List (List C)} {L:List (List IV)} (H:List Nat) (I:Nat->List (List C)->Prop) (Ix:bg->List (List C)->Prop)
  (hg:st.ev g = .clo gf ts) (hl:∀ p∈ts,(st.b p.1).gen=p.2/\0<p.2) (hnd:(ts.map (·.1)).Nodup) (hcs:ts.map (fun p=>(st.b p.1).cs)=css) (hit:KA P gf css L)
  (hH:H.Nodup) (hHg:∀ t∈H,0<(st.b t).gen/\t ∉ ts.map (·.1)) (h0:I 0 (H.map fun t=>(st.b t).cs)) (hps:∀ x∈L,x.length=ps.size)
  (round:∀ k x cs,L[k]?=some x->I k cs->cs.length=H.length->WP P assign (fun e s=>e = .normal/\WP P body (OM H (I (k+1)) Ix) s) (bV st H cs ps.toList x))
  (fin:∀ cs γs,I L.length cs->cs.length=H.length->γs.length=ts.length->Q .normal { st with b:=setB (setB st.b H cs) (ts.map (·.1)) γs })
  (stop:∀ e cs γs,e ≠ .normal->Ix e cs->cs.length=H.length->γs.length=ts.length->Q e { st with b:=setB (setB st.b H cs) (ts.map (·.1)) γs }) :
  WPn P (.rangeFunc g ps assign body) Q st:=by
 intro W0 M0 N G w a S hd;have hgv:a.eval g = .func (.func gf) #[] (ts.map fun p=>bpt (G.A p.1)).toArray:=by
  have:=S.ev g;rw[hg]at this;exact this.2 hl
 obtain⟨ks,hks⟩:∃ ks,ts.map (·.1)=ks:=⟨_,rfl⟩;obtain⟨bs,hbs⟩:∃ bs,ts.map (fun p=>G.A p.1)=bs:=⟨_,rfl⟩;have hown:∀ p∈ts,G.own (G.A p.1)=some (.b p.1):=fun p hp=>(S.bx p.1 (by have:=hl p hp;omega)).1;rw[hks]at hnd;have hbnd:bs.Nodup:=by
  rw[<-hbs,List.nodup_iff_pairwise_ne,List.pairwise_map];rw[<-hks,List.nodup_iff_pairwise_ne,List.pairwise_map]at hnd;refine hnd.imp_of_mem fun{p q} hp hq hne e=>hne ?_;have h3:=hown p hp;rw[e,hown q hq]at h3;exact(Key.b.inj (Option.some.inj h3)).symm
 have hbown:∀ b∈bs,∃ t∈ks,G.A t=b/\G.own b=some (.b t)/\0<(st.b t).gen:=fun b hb=>by
  rw[<-hbs]at hb;obtain⟨p,hp,rfl⟩:=List.mem_map.1 hb;exact⟨p.1,by rw[<-hks];exact List.mem_map.2 ⟨p,hp,rfl⟩,rfl,hown p hp,by have:=hl p hp;omega⟩
 have hkb:∀ t∈ks,G.A t∈bs/\0<(st.b t).gen:=fun t ht=>by
  rw[<-hks]at ht;obtain⟨p,hp,rfl⟩:=List.mem_map.1 ht;exact⟨by rw[<-hbs];exact List.mem_map.2 ⟨p,hp,rfl⟩,by have:=hl p hp;omega⟩
 have howlt:∀ b,G.own b≠none->b<w.heap.size:=fun b h=>(S.own b h).2;have hML:∀ b,G.M M0 b->b<w.heap.size:=mbelow S;refine wpIn_rangeFunc ?_;intro fn hfn;obtain⟨l,hlv⟩:∃ l,l=w.heap.size+1:=⟨_,rfl⟩;obtain⟨rec,hrec⟩:∃ rec:LoopState->Option Code->Loop,rec=fun st pe=>{ state:=st,pending:=pe,fn,tmps:=a.tmps,params:=ps,assign,body,defers:=w.heap.size }:=⟨_,rfl⟩;obtain⟨W1,hW1⟩:∃ W1,(w.alloc (.deferred (some []))).alloc (.loop (rec .ready none))=W1:=⟨_,rfl⟩;have hL1:W1.heap[l]?=some (.loop (rec .ready none)):=by
  rw[<-hW1,hlv];have:=World.alloc_heap_new (w.alloc (.deferred (some []))) (.loop (rec .ready none));rwa [World.size_alloc]at this
 have hbel:bq w.heap.size w W1:=by
  rw[<-hW1];exact(((bq.refl w.heap.size w).alloc (ay _) _).alloc au _)
 have hK1:W1.heap[w.heap.size]?=some (.deferred (some [])):=by
  rw[<-hW1];exact(Go.RowKit.Below.heap_alloc _ _ _ au).trans (World.alloc_heap_new w _)
 have hW1s:W1.heap.size=w.heap.size+2:=by rw[<-hW1];simp
 have hloop:∀ r:Loop,(∀ c t f,(Obj.loop r) ≠ .cells c t f)/\∀ b,(Obj.loop r) ≠ .deferred b:=fun r=>⟨fun _ _ _=>by simp,fun _=>by simp⟩;obtain⟨JS,hJS⟩:∃ JS:List (List C)->World->Prop,JS=fun cs u=>cs.length=H.length/\∃ γs:List (List C),γs.length=ts.length/\Sim W0 M0 N { st with b:=setB (setB st.b H cs) ks γs } G u a:=⟨_,rfl⟩
 obtain⟨J,hJ⟩:∃ J:Option Nat->World->Prop,J=fun κ u=>u.heap[w.heap.size]?=some (.deferred (some []))/\(match κ with
   | some k=>u.heap[l]?=some (.loop (rec .ready none))/\∃ cs,I k cs/\JS cs u
   | none=>∃ e c,El e=some c/\u.heap[l]?=some (.loop (rec .done (some c)))/\∃ cs,Ix e cs/\JS cs u):=⟨_,rfl⟩
 obtain⟨M,hM⟩:∃ M:Nat->Prop,M=fun b=>G.M M0 b\/b=l\/b=w.heap.size:=⟨_,rfl⟩;have hMG:∀ b,G.M M0 b->M b:=fun b h=>by rw[hM];exact .inl h
 have hlM:¬ G.M M0 l:=fun h=>by have:=hML l h;omega
 have hlbs:l ∉ bs:=fun h=>by obtain⟨t,-,-,h2,-⟩:=hbown l h;have:=howlt l (by simp[h2]);omega
 have hDbs:w.heap.size ∉ bs:=fun h=>by obtain⟨t,-,-,h2,-⟩:=hbown _ h;have:=howlt _ (by simp[h2]:G.own w.heap.size≠none);omega
 have hgenB:∀ cs γs t,(setB (setB st.b H cs) ks γs t).gen=(st.b t).gen:=fun cs γs t=>by rw[tY,tY]
 have hdisj:∀ t∈H,t ∉ ks:=fun t ht=>by rw[<-hks];exact(hHg t ht).2
 have hHget:∀(i t:Nat) c cs γs,H[i]?=some t->cs[i]?=some c->(setB (setB st.b H cs) ks γs t).cs=c:=fun i t c cs γs h1 h2=>by
  rw[iX _ ks γs (hdisj t (List.mem_of_getElem? h1)),nn st.b H cs hH h1 h2]
 have stepS:∀ cs u u',JS cs u->EG M bs u u'->JS cs u':=by
  intro cs u u' hj hs;rw[hJS]at hj ⊢;obtain⟨h1,γs,h2,S1⟩:=hj;refine⟨h1,?_⟩
  classical
  let f:Nat->List C:=fun b=>if h:∃ cs,oV u' M b cs then Classical.choose h else[]
  have hf:∀ b∈bs,oV u' M b (f b):=fun b hb=>by
   have:=hs.box b hb;simp only[f,dif_pos this];exact Classical.choose_spec this
  refine⟨ts.map fun p=>f (G.A p.1),au,?_⟩;have key:∀ t∈ks,(setB (setB st.b H cs) ks (ts.map fun p=>f (G.A p.1)) t).cs=f (G.A t):=fun t ht=>by
   obtain⟨i,hi,e⟩:=List.getElem_of_mem ht;have e1:ks[i]?=some t:=by rw[aD hi,e]
   have e2:(ts.map fun p=>f (G.A p.1))[i]?=some (f (G.A t)):=by
    rw[<-hks,List.getElem?_map]at e1;rw[List.getElem?_map];cases hp:ts[i]? with
    | none=>simp[hp]at e1
    | some p=>simp only[hp,Option.map_some,Option.some.injEq]at e1 ⊢;rw[e1]
   rw[nn _ ks _ hnd e1 e2]
  have hsame:∀ b,b<u.heap.size->b ∉ bs->u'.heap[b]?=u.heap[b]?:=hs.block;have hkk:bE u (G.M M0) u' (G.M M0):=⟨hs.size,fun b hb h=>⟨h,hsame b hb fun h'=>by obtain⟨t,-,-,h2,-⟩:=hbown b h';exact h (.inr (by simp[h2]))⟩⟩;have:=S1.world (β':=setB (setB st.b H cs) ks (ts.map fun p=>f (G.A p.1))) (u':=u') ⟨hs.os,hs.tape,hs.output,hs.size,hs.drawn,fun b hb hx=>hsame b (Nat.lt_of_lt_of_le hb S1.le) fun h'=>?_⟩ (fun b hb h=>(hkk.2 b hb h).2) (fun t=>by simp only[hgenB]) (fun t ht=>?_) (fun b k hk hn=>hsame b (S1.own b (by simp[hk])).2 fun h'=>by obtain⟨t,-,-,h2,-⟩:=hbown b h';rw[hk]at h2;cases h2;exact hn t rfl)
  ·exact this
  ·obtain⟨t,-,-,h2,-⟩:=hbown b h';rcases (S1.own b (by simp[h2])).1 with h|h
   ·omega
   ·exact h hx
  ·by_cases hm:t∈ks
   ·rw[key t hm];obtain⟨ys,T,e1,e2⟩:=hf _ (hkb t hm).1;exact⟨ys,T,e1,aY.less hMG e2⟩
   ·obtain⟨k1,ys,T,k2,k3⟩:=S1.bx t ht;have hnb:G.A t ∉ bs:=fun h'=>by
     obtain⟨t',ht',-,h2,-⟩:=hbown _ h';rw[k1]at h2;cases h2;exact hm ht'
    refine⟨ys,T,(hsame _ (S1.own _ (by simp[k1])).2 hnb).trans k2,?_⟩;rw[iX _ ks _ hm];simp only[iX _ ks γs hm]at k3;exact aY.mono hkk _ _ k3
 have stab:∀ κ u u',J κ u->EG M bs u u'->J κ u':=by
  intro κ u u' hj hs;rw[hJ]at hj ⊢;have hsame:∀(b:Nat) o,u.heap[b]?=some o->b ∉ bs->u'.heap[b]?=some o:=fun b o h hn=>(hs.block b (Array.getElem?_eq_some_iff.1 h).1 hn).trans h;refine⟨hsame _ _ hj.1 hDbs,?_⟩;have h2:=hj.2;cases κ with
  | some k=>obtain⟨h3,cs,h4,h5⟩:=h2;exact⟨hsame _ _ h3 hlbs,cs,h4,stepS cs u u' h5 hs⟩
  | none=>obtain⟨e,c,h3,h4,cs,h5,h6⟩:=h2;exact⟨e,c,h3,hsame _ _ h4 hlbs,cs,h5,stepS cs u u' h6 hs⟩
 have hMlt:∀ b,M b->b<W1.heap.size:=fun b h=>by
  rw[hM]at h;rcases h with h|rfl|rfl
  ·have:=hML b h;omega
  ·omega
  ·omega
 have hkM:bE w (G.M M0) W1 M:=⟨hbel.size,fun b hb h=>⟨fun h'=>by
  rw[hM]at h';rcases h' with h'|rfl|rfl
  ·exact h h'
  ·omega
  ·omega,hbel.block b hb⟩⟩
 have hinit:J (some 0) W1:=by
  rw[hJ];refine⟨hK1,hL1,_,h0,?_⟩;rw[hJS];refine⟨au,ks.map fun t=>(st.b t).cs,by rw[<-hks];simp,?_⟩;rw[qT st.b H,qT st.b ks];exact S.grow hbel
 have hbox:∀(i b:Nat) cs,bs[i]?=some b->css[i]?=some cs->oV W1 M b cs:=by
  intro i b cs h1 h2;rw[<-hbs,List.getElem?_map]at h1;rw[<-hcs,List.getElem?_map]at h2;cases hp:ts[i]? with
  | none=>simp[hp]at h1
  | some p =>
   simp only[hp,Option.map_some,Option.some.injEq]at h1 h2;subst h1 h2;obtain⟨k1,ys,T,k2,k3⟩:=S.bx p.1 (by have:=hl p (List.mem_of_getElem? hp);omega);exact⟨ys,T,(hbel.block _ (howlt _ (by simp[k1]))).trans k2,aY.mono hkM _ _ k3⟩
 have yield:∀ k u x vs,J (some k) u->L[k]?=some x->cV u M x vs->YAt P l vs.toArray u fun e u'=>A9 M bs u u'/\((e = .returned (.bool true)/\J (some (k+1)) u')\/(e = .returned (.bool false)/\J none u')):=by
  intro k u x vs hj hx hr;rw[hJ]at hj;obtain⟨hD,hlu,cs,hI,hj⟩:=hj;rw[hJS]at hj;obtain⟨hcl,γs,hgl,S1⟩:=hj;have hxl:=hps x (List.mem_of_getElem? hx);have hvl:=hr.length;have hy:=run_yield (P:=P) (args:=vs.toArray) hlu (by rw[hrec];simp;omega);have hr1:cV u (G.M M0) x vs:=hr.mono ⟨ay _,fun b _ h=>⟨fun h'=>h (hMG b h'),rfl⟩⟩;have S2:=FR (S:=S1) (st0:=st) (H:=H) (cs:=cs) (ps:=ps.toList) (x:=x) (vs:=vs) rfl (hgenB cs γs) hH hcl (fun i t c h1 h2=>⟨by rw[hgenB];exact(hHg t (List.mem_of_getElem? h1)).1,hHget i t c cs γs h1 h2⟩) hr1 (fun p hp=>hd p (by simp[asg,Array.mem_toList_iff.1 hp]));have etm:(ps.zip vs.toArray).foldl (fun tmps (p:Nat×Value)=>tmps.setIfInBounds p.1 p.2) a.tmps=(ps.toList.zip vs).foldl (fun t (p:Nat×Value)=>t.setIfInBounds p.1 p.2) a.tmps:=by
   rw[<-Array.foldl_toList,Array.toList_zip]
  have hlt:l<u.heap.size:=(Array.getElem?_eq_some_iff.1 hlu).1;have hxl0:∀ b,¬ G.M M0 b->xR G H b=none:=fun b h=>by
   cases e:xR G H b with
   | none=>rfl
   | some k=>obtain⟨t,-,-,-,h2⟩:=gH e;exact(h (.inr (by simp[h2]))).elim
  refine⟨fn,_,assign,body,by rw[hrec]at hy;exact hy,roundIn_of_wpIn (F:=fen none) trivial ?_⟩;have hw:=round k x cs hx hI hcl (some l) ⟨u,xR G H,[]⟩ (mR G M0 H) N (gR G H) u _ S2 (fun d hdm=>hd d (by simp[asg,hdm]));show assign.wpIn (fen (some l)) 0 P _ _ _;have etm':(ps.zip vs.toArray).foldl (fun tmps (t,a)=>tmps.setIfInBounds t a) (rec .ready none).tmps=(ps.toList.zip vs).foldl (fun t (p,v)=>t.setIfInBounds p v) a.tmps:=by rw[hrec];exact etm
  rw[hrec]at etm';rw[etm'];refine wpIn_mono hw ?_;rintro e a1 w1 ⟨y,s1,G1,h1,⟨rfl,hb⟩,S3⟩;have en:e = .normal:=by
   cases e with
   | normal=>rfl
   | exit id=>simp[bz]at h1
   | ret=>simp[bz]at h1
   | goto l=>simp[bz]at h1
   | panic l=>simp[bz]at h1
   | outgrown=>simp[bz]at h1
  subst en;have hl1:w1.heap[l]?=some (.loop (rec .ready none)):=(S3.below.block l hlt (hxl0 l hlM)).trans hlu;refine⟨_,run_beginRound hl1 (by rw[hrec]),?_⟩;have S4:=S3.putBase (W0:=⟨u,xR G H,[]⟩) (u:=u) (o' := .loop { rec .ready none with state := .busy }) (hxl0 l hlM) hlt hl1 (hloop _).1 (hloop _).1 rfl
  show body.wpIn (fen (some l)) 0 P _ _ _;refine wpIn_mono (hb (some l) _ _ N G1 _ a1 S4 (fun d hdm=>hd d (by simp[asg,hdm]))) ?_;have fin:∀(jump:Option Code) (s2:St) (G2:Gh) (w3:World) (a2:Act),(∀ t∈H,(s2.b t).gen=1)->Sim ⟨u.putObj l (.loop { rec .ready none with state := .busy }),xR G H,[]⟩ (mR G M0 H) N s2 G2 w3 a2 ->
    (Instr.endRound l jump).run P w3 = .ok (.bool jump.isNone) (w3.putObj l (.loop (rec (if jump.isNone then .ready else .done) jump)))/\A9 M bs u (w3.putObj l (.loop (rec (if jump.isNone then .ready else .done) jump))) /\
    (w3.putObj l (.loop (rec (if jump.isNone then .ready else .done) jump))).heap[w.heap.size]?=some (.deferred (some []))/\(w3.putObj l (.loop (rec (if jump.isNone then .ready else .done) jump))).heap[l]?=some (.loop (rec (if jump.isNone then .ready else .done) jump)) /\
    JS (H.map fun t=>(s2.b t).cs) (w3.putObj l (.loop (rec (if jump.isNone then .ready else .done) jump))):=by
   intro jump s2 G2 w3 a2 hg1 S5;have hHi:∀ t∈H,(setB (setB st.b H (H.map fun t=>(s2.b t).cs)) ks γs t).cs=(s2.b t).cs:=fun t ht=>by
    obtain⟨i,hi,e⟩:=List.getElem_of_mem ht;have e1:H[i]?=some t:=by rw[aD hi,e]
    exact hHget i t _ _ γs e1 (by rw[List.getElem?_map,e1];rfl)
   obtain⟨r1,r2,r3,r4⟩:=FS (o' := .loop (rec (if jump.isNone then .ready else .done) jump)) (β':=setB (setB st.b H (H.map fun t=>(s2.b t).cs)) ks γs) S1 hlu (hloop _).1 (hloop _).1 (hloop _).1 (hloop _).2 hlM (by have:=S.le;omega) S5
    (fun t ht=>by rw[hgenB];exact(hHg t ht).1) hg1 (fun t=>by simp only[hgenB]) hHi (fun t ht=>by
     by_cases hm:t∈ks
     ·obtain⟨i,hi,e⟩:=List.getElem_of_mem hm;have e1:ks[i]?=some t:=by rw[aD hi,e]
      have e3:ks.length=ts.length:=by rw[<-hks];simp
      have e2:γs[i]?=some (γs[i]'aw):=aD aw;show(setB (setB st.b H (H.map fun t=>(s2.b t).cs)) ks γs t).cs=(setB (setB st.b H cs) ks γs t).cs;rw[nn _ ks γs hnd e1 e2,nn _ ks γs hnd e1 e2]
     ·show(setB (setB st.b H (H.map fun t=>(s2.b t).cs)) ks γs t).cs=(setB (setB st.b H cs) ks γs t).cs;rw[iX _ ks _ hm,iX _ ks _ hm,iX _ H _ ht,iX _ H _ ht])
   have hend:=run_endRound (P:=P) jump r2;refine⟨?_,⟨r3,fun b hb hh=>?_⟩,?_,World.putObj_heap_same (Array.getElem?_eq_some_iff.1 r2).1,?_⟩
   ·rw[hrec]at hend ⊢;exact hend
   ·have hbl:b≠l:=by
     rintro rfl;rcases hh with h|h
     ·exact h (by rw[hM];exact .inr (.inl rfl))
     ·exact hlbs h
    refine r1 b hb hbl ?_;rcases hh with h|h
    ·exact hxl0 b fun h'=>h (hMG b h')
    ·cases e:xR G H b with
     | none=>rfl
     | some k =>
      obtain⟨t,-,ht,-,h2⟩:=gH e;obtain⟨t',ht',-,h3,-⟩:=hbown b h;rw[h2]at h3;cases h3;exact(hdisj t ht ht').elim
   ·exact(r1 w.heap.size (Array.getElem?_eq_some_iff.1 hD).1 aw (hxl0 _ fun h=>by have:=hML _ h;omega)).trans hD
   ·rw[hJS];exact⟨au,γs,hgl,r4⟩
  rintro e a2 w3 ⟨y,s2,G2,h1,⟨hg1,hq⟩,S5⟩;cases e with
  | normal =>
   cases h1;obtain⟨f1,f2,f3,f4,f5⟩:=fin none s2 G2 w3 a2 hg1 S5;exact⟨_,_,f1,f2,.inl ⟨rfl,by rw[hJ];exact⟨f3,f4,_,hq,f5⟩⟩⟩
  | exit id =>
   cases h1;obtain⟨f1,f2,f3,f4,f5⟩:=fin (some (.exit id)) s2 G2 w3 a2 hg1 S5;exact⟨_,_,f1,f2,.inr ⟨rfl,by rw[hJ];exact⟨f3,.exit id,_,rfl,f4,_,hq,f5⟩⟩⟩
  | ret =>
   cases h1;obtain⟨f1,f2,f3,f4,f5⟩:=fin (some .ret) s2 G2 w3 a2 hg1 S5;exact⟨_,_,f1,f2,.inr ⟨rfl,by rw[hJ];exact⟨f3,.ret,_,rfl,f4,_,hq,f5⟩⟩⟩
  | goto l=>simp[bz]at h1
  | panic l=>simp[bz]at h1
  | outgrown=>simp[bz]at h1
 refine⟨l,[mark w.heap.size],W1,{ target := .fn (.func gf) (bs.map bpt).toArray,args := #[.func (.yield l) #[] #[]] },W1,gf,(Value.func (.yield l) #[] #[]::bs.map bpt).toArray,W1,?_,?_,fun _ _=>trivial,?_,fun h=>by simp[fen,Fence.wide]at h,?_⟩
 ·rw[<-hW1,hrec,hlv];exact run_enterLoop_outer _ _ _ _ _
 ·have e:(ts.map fun p=>bpt (G.A p.1))=bs.map bpt:=by rw[<-hbs,List.map_map];rfl
  rw[e]at hgv;simp only[resolve,hgv];simp[go_sem]
 ·simp only[invoke];have:(#[.func (.yield l) #[] #[]]++(bs.map bpt).toArray)=(Value.func (.yield l) #[] #[]::bs.map bpt).toArray:=by apply Array.ext';simp
  rw[this];exact uW hit.1 _ _
 ·refine sH.2 ((hit.2 l W1 M bs J hbnd (by rw[<-hbs,<-hcs];simp) hbox (fun b hb=>by obtain⟨t,-,-,h2,-⟩:=hbown b hb;exact hMG b (.inr (by simp[h2]))) hMlt stab yield hinit).mono ?_);have close:∀(o:Loop) cs u,u.heap[w.heap.size]?=some (.deferred (some []))->u.heap[l]?=some (.loop o)->JS cs u->∃ γs:List (List C),cs.length=H.length/\γs.length=ts.length/\Sim ⟨W0.w,W0.x,w.heap.size::W0.df⟩ M0 N { st with b:=setB (setB st.b H cs) ks γs } G (u.putObj l (.loop { o with state := .exhausted })) { a with defers:=[mark w.heap.size]++a.defers }:=by
   intro o cs u h1 h2 h3;rw[hJS]at h3;obtain⟨h4,γs,h5,S1⟩:=h3;have h6:=S1.defers;refine⟨γs,h4,h5,S1.putObj (df:=w.heap.size::W0.df) h2 (hloop _).1 (hloop _).1 hlM (.inl (by have:=S.le;omega)) ⟨by rw[h6.1];rfl,?_,?_⟩⟩
   ·refine List.nodup_cons.2 ⟨fun h=>?_,h6.2.1⟩;have:=(S.defers.2.2 _ h).1;have:=(Array.getElem?_eq_some_iff.1 this).1;omega
   ·intro b hb;rcases List.mem_cons.1 hb with rfl|hb
    ·exact⟨(World.putObj_heap_other aw).trans h1,fun h=>by have:=hML _ h;omega,S.le⟩
    ·obtain⟨q1,q2,q3⟩:=h6.2.2 b hb;refine⟨(World.putObj_heap_other fun e=>?_).trans q1,q2,q3⟩;subst e;rw[q1]at h2;cases h2
  rintro e u ⟨⟨v,rfl⟩,(hj|hj)⟩
  ·rw[hJ]at hj;obtain⟨h1,h2,cs,h3,h4⟩:=hj;obtain⟨γs,h5,h6,S1⟩:=close _ cs u h1 h2 h4;have hpe:(rec .ready none).pending=none:=by rw[hrec]
   rw[hpe]at S1;refine⟨none,_,by have:=run_endLoop (P:=P) h2 (by rw[hrec];simp);rw[hpe]at this;exact this,?_⟩;refine⟨.normal,_,G,_,rfl,?_,S1⟩;have:=fin cs γs h3 h5 h6;rw[hks]at this;exact this
  ·rw[hJ]at hj;obtain⟨h1,e,c,h7,h2,cs,h3,h4⟩:=hj;obtain⟨γs,h5,h6,S1⟩:=close _ cs u h1 h2 h4;have hpe:(rec .done (some c)).pending=some c:=by rw[hrec]
   rw[hpe]at S1;refine⟨some c,_,by have:=run_endLoop (P:=P) h2 (by rw[hrec];simp);rw[hpe]at this;exact this,?_⟩;have hne:e ≠ .normal:=fun e'=>by subst e';simp[El]at h7
   have:=stop e cs γs hne h3 h5 h6;rw[hks]at this;cases e with
   | normal=>exact(hne rfl).elim
   | exit id =>
    simp only[El,Option.some.injEq]at h7;subst h7;exact wpIn_exit ⟨.exit id,_,G,_,rfl,this,S1⟩
   | ret =>
    simp only[El,Option.some.injEq]at h7;subst h7;exact wpIn_ret ⟨.ret,_,G,_,rfl,this,S1⟩
end
section
variable {P:Program} {c:vy} {k:Option Nat} {st:St} {x y:Code}
theorem WPi.end_k {Q:bg->St->Option Nat->Prop} (hc:c.OK P) (kind:FuncId->CK) (h:∀ K:bg->St->Prop,(∀ e s,lone c.bs.length s->Q e s k->K e s)->CW P kind x K st):WPi P c x Q st k :=
 WPi.piece hc (h (fun e s=>lone c.bs.length s/\Q e s k) fun _ _ h1 h2=>⟨h1,h2⟩)
theorem WPi.seq_k {Q:bg->St->Option Nat->Prop} (hc:c.OK P) (kind:FuncId->CK) (h:∀ K:bg->St->Prop,(∀ s,lone c.bs.length s->WPi P c y Q s k->K .normal s)->(∀ e s,e ≠ .normal->lone c.bs.length s->Q e s k->K e s)->CW P kind x K st):WPi P c (.seq x y) Q st k:=by
 refine WPi.seq (WPi.end_k hc kind fun K hK=>h K (fun s h1 h2=>hK .normal s h1 h2) fun e s hne h1 h2=>hK e s h1 ?_);cases e with
 | normal=>exact(hne rfl).elim
 | exit id=>exact h2
 | ret=>exact h2
theorem WPi.yreg_k {Q:bg->St->Option Nat->Prop} (hc:c.OK P) (kind:FuncId->CK) {id:Nat} {ops:List Oper} {tf:Operand} {xs:Array Operand} {ty:Array TypeId} (n:Nat) (d:Tmp) (j:Nat) (x:List IV) {o:Oper} (hn:ops[n]?=some o) (ho:o.op = .call ⟨.value tf,xs,ty⟩) (hd:o.dst=some d)
  (hk:k=some j) (hx:c.L[j]?=some x)
  (h:∀ K1 K2:St->Prop,(∀ s,lone c.bs.length s->Q .normal s (some (j+1))->K1 s)->(∀ s,lone c.bs.length s->Q .normal s none->K2 s) ->
   WsF P kind ops (ops.take n) (fun s=>lone c.bs.length s/\gd ops.toArray s o=some true/\s.ev tf=sc (.func (.yield c.l) #[] #[])/\eF (fun x=>s.toIV (s.ev x)) xs.toList=some x /\
    WsF P kind ops (ops.drop (n+1)) K1 (s.put (some d) (sc (.bool true)))/\WsF P kind ops (ops.drop (n+1)) K2 (s.put (some d) (sc (.bool false)))) st):WPi P c (.region id ops.toArray false) Q st k:=by
 have h':=h (fun s=>lone c.bs.length s/\Q .normal s (some (j+1))) (fun s=>lone c.bs.length s/\Q .normal s none) (fun _ h1 h2=>⟨h1,h2⟩) (fun _ h1 h2=>⟨h1,h2⟩);have mono:∀{K K':St->Prop} {l:List Oper} {s:St},(∀ s,K s->K' s)->kw P kind ops.toArray l K s->kw P kind ops.toArray l K' s:=by
  intro K K' l
  induction l with
  | nil=>exact fun hk h=>hk _ h
  | cons o l ih=>exact fun hk ⟨t,h1,h2,h3⟩=>⟨t,h1,fun e=>kx (fun s=>ih hk) (h2 e),fun e=>ih hk (h3 e)⟩
 refine WPi.yreg' hc kind hn ho hd (mono (fun s hs=>?_) (dm (ops:=ops.toArray) h'));obtain⟨h1,h2,h3,h4,h5,h6⟩:=hs;exact⟨h1,true,h2,fun _=>⟨h3,x,j,h4,hk,hx,dm (ops:=ops.toArray) h5,dm (ops:=ops.toArray) h6⟩,fun h=>by cases h⟩
theorem WPi.yreg_no {Q:bg->St->Option Nat->Prop} (hc:c.OK P) (kind:FuncId->CK) {id:Nat} {ops:List Oper} {tf:Operand} {xs:Array Operand} {ty:Array TypeId} (n:Nat) (d:Tmp) {o:Oper} (hn:ops[n]?=some o) (ho:o.op = .call ⟨.value tf,xs,ty⟩) (hd:o.dst=some d)
  (h:∀ K1:St->Prop,(∀ s,lone c.bs.length s->Q .normal s k->K1 s) ->
   WsF P kind ops (ops.take n) (fun s=>lone c.bs.length s/\gd ops.toArray s o=some false/\WsF P kind ops (ops.drop (n+1)) K1 (s.put (some d) (.tup []))) st):WPi P c (.region id ops.toArray false) Q st k:=by
 have h':=h (fun s=>lone c.bs.length s/\Q .normal s k) (fun _ h1 h2=>⟨h1,h2⟩);have mono:∀{K K':St->Prop} {l:List Oper} {s:St},(∀ s,K s->K' s)->kw P kind ops.toArray l K s->kw P kind ops.toArray l K' s:=by
  intro K K' l
  induction l with
  | nil=>exact fun hk h=>hk _ h
  | cons o l ih=>exact fun hk ⟨t,h1,h2,h3⟩=>⟨t,h1,fun e=>kx (fun s=>ih hk) (h2 e),fun e=>ih hk (h3 e)⟩
 refine WPi.yreg' hc kind hn ho hd (mono (fun s hs=>?_) (dm (ops:=ops.toArray) h'));obtain⟨h1,h2,h3⟩:=hs;exact⟨h1,false,h2,(fun h=>nomatch h),fun _=>dm (ops:=ops.toArray) h3⟩
end
section
variable {P:Program} {st:St} {Q:bg->St->Prop} {x y:Code}
theorem WPn.end_k (kind:FuncId->CK) (h:∀ K:bg->St->Prop,(∀ e s,Q e s->K e s)->CW P kind x K st):WPn P x Q st := .of_CW (h Q fun _ _ h=>h)
theorem WPn.seq_k (kind:FuncId->CK) (h:∀ K:bg->St->Prop,(∀ s,WPn P y Q s->K .normal s)->(∀ e s,e ≠ .normal->Q e s->K e s)->CW P kind x K st):WPn P (.seq x y) Q st:=by
 refine WPn.seq (.of_CW (h (jl (WPn P y Q) Q) (fun _ h=>h) fun e s hne h=>?_));cases e with
 | normal=>exact(hne rfl).elim
 | exit id=>exact h
 | ret=>exact h
theorem WP.end_k (kind:FuncId->CK) (h:∀ K:bg->St->Prop,(∀ e s,Q e s->K e s)->CW P kind x K st):WP P x Q st:=bQ x (h Q fun _ _ h=>h)
end
end Go.AM
namespace Go.AM
open Alg
open Go.Proofs
open Classical
theorem kg:mA Value.nilFunc = .i (.c (.v Value.nilFunc)):=rfl
theorem x9 (t:Tmp) (gf:Nat) (css:List (List C)) (e:bg) (τ:Nat->AV) (β:Nat->BX) (ε:Nat->EN) (π:Nat->MP):Rd t gf css e ⟨τ,β,ε,π⟩=((e = .normal\/e = .ret) /\
 ∃ ts,τ t = .clo gf ts/\(∀ p∈ts,(β p.1).gen=p.2/\0<p.2)/\(ts.map (·.1)).Nodup/\ts.map (fun p=>(β p.1).cs)=css):=rfl
theorem Ac (l:Nat) (c:List C):dH l [c]=⟨upd (upd (fun _ => .any) 0 (sc (.func (.yield l) #[] #[]))) 1 (.bp 1000 1 0),upd mS 1000 ⟨1,c⟩,oQ,nJ⟩:=by
 have e1:(dH l [c]).t=upd (upd (fun _ => .any) 0 (sc (.func (.yield l) #[] #[]))) 1 (.bp 1000 1 0):=by
  funext n
  match n with
  | 0=>rfl
  | 1=>rfl
  | n+2=>rw[aT _ _ aw,aT _ _ aw];rfl
 have e2:(dH l [c]).b=upd mS 1000 ⟨1,c⟩:=by
  funext n;by_cases e:n=1000
  ·subst e;rfl
  ·rw[aT _ _ e];simp only[dH];split
   ·rw[List.getElem?_eq_none ar];rfl
   ·rfl
 show St.mk (dH l [c]).t (dH l [c]).b _ _=_;rw[e1,e2];rfl
theorem cN {τ:Nat->AV} {c:List C} {n:Nat} (h:n=1):lone n ⟨τ,upd mS 1000 ⟨1,c⟩,oQ,nJ⟩:=by
 subst h;refine⟨fun t ht=>?_,fun _=>rfl,fun _=>rfl⟩;by_cases e:t=1000
 ·subst e;exact⟨aw,aw,rfl⟩
 ·simp only[aT _ _ e]at ht;simp[mS]at ht
def wU {α:Type} (f:α->IV) (l:List α):List (List IV):=l.zipIdx.reverse.map fun p=>[iN (p.2:Int),f p.1]
theorem jL {α:Type} (f:α->IV) (l:List α):(wU f l).length=l.length:=by simp[wU]
theorem oC {α:Type} (f:α->IV) (l:List α) {i:Nat} (h:i<l.length):(wU f l)[l.length-(i+1)]?=some [iN (i:Int),f l[i]]:=by
 unfold wU;rw[List.getElem?_map,List.getElem?_reverse ar,List.length_zipIdx,show l.length-1-(l.length-(i+1))=i by omega];simp[h]
theorem Np (rs:List (List C)):FnC Tryz.prog 256 [.c (.lst rs)] 258 [[.lst rs]]:=by
 refine rT kd (fn:=Tryz.f256) av rfl rfl rfl av au av ?_;simp -dsimp only[go_sem,kg];refine ms (ts:=[(1,1)]) (by simp -dsimp only[go_sem]) (by simp -dsimp only[go_sem]) ?_;simp -dsimp only[go_sem,x9];exact⟨[(1,1)],rfl,au,au,rfl⟩
theorem No (l:List Int) (hl:l.length<=1099511627776):KA Tryz.prog 258 [[.lst (l.map bG)]] (wU (fun d => .c (.v (.int .u32 d))) l):=by
 refine pD (fn:=Tryz.f258) av rfl rfl rfl av au av ?_;intro c hc hbl hL;rw[Ac];have hb1:c.bs.length=1:=hbl;refine WPi.seq_k hc kd fun K hK _=>?_;simp -dsimp only[go_sem,az]
 repeat(refine And.intro aw ?_)
 refine hK _ (cN hb1) ?_;refine WPi.block (WPi.loop (fun n s k=>∃ τ,s=⟨τ,upd mS 1000 ⟨1,[.lst (l.map bG)]⟩,oQ,nJ⟩/\τ 0=sc (.func (.yield c.l) #[] #[])/\τ 1 = .bp 1000 1 0/\n<=l.length/\τ 3 = .i (iN ((n:Int)-1))/\k=some (l.length-n)) (n:=l.length) ⟨_,rfl,rfl,rfl,ay _,rfl,au⟩ ?_);rintro n s k ⟨τ,rfl,h0,h1,hn,h3,rfl⟩;refine WPi.seq_k hc kd fun K hK hK2=>?_;cases n with
 | zero =>
  have e1:decide ((0:Int)<=((0:Nat):Int)-1)=false:=rfl;simp -dsimp only[go_sem,h3,e1];refine hK2 _ _ au (cN hb1) ?_;refine⟨.inl rfl,.inl ?_⟩;rw[jL];simp
 | succ n =>
  have en:((n+1:Nat):Int)-1=(n:Int):=aw;rw[en]at h3;have e1:decide ((0:Int)<=(n:Int))=true:=aF aw;have hg:l[n]?=some l[n]:=aD aw;simp -dsimp only[go_sem,h3,e1];refine hK _ (cN hb1) ?_;refine WPi.seq ?_;refine WPi.block ?_;refine WPi.seq ?_;refine WPi.yreg_k hc kd 6 17 (l.length-(n+1)) [iN (n:Int),.c (.v (.int .u32 l[n]))] rfl rfl rfl rfl (by rw[hL];exact oC _ _ aw) fun K1 K2 hK1 hK2=>?_;simp -dsimp only[go_sem,h0,h1,h3];refine aP hg ?_;simp -dsimp only[go_sem,h0,h1,h3];refine⟨cN hb1,rfl,?_⟩;refine⟨hK1 _ (cN hb1) ?_,hK2 _ (cN hb1) ?_⟩
  ·refine WPi.end_k hc kd fun K hK=>?_;simp -dsimp only[go_sem];refine hK _ _ (cN hb1) ?_;refine WPi.end_k hc kd fun K hK=>?_;simp -dsimp only[go_sem,h3]
   repeat(refine And.intro aw ?_)
   refine hK _ _ (cN hb1) ?_;refine⟨n,aw,_,rfl,h0,h1,aw,rfl,?_⟩;congr 1;omega
  ·refine WPi.end_k hc kd fun K hK=>?_;simp -dsimp only[go_sem];refine hK _ _ (cN hb1) ?_;exact⟨.inr rfl,.inr rfl⟩
theorem pb {st:St} {H:List Nat} {t g off:Nat} (h:H.contains t=true) (hg:(st.b t).gen=g) (h0:0<g):rtA st H (.bp t g off) = .bp t 1 off:=by
 have h1:Nat.beq (st.b t).gen g=true:=by rw[hg];exact Nat.beq_refl g
 have h2:Nat.blt 0 g=true:=by rw[Nat.blt_eq];exact h0
 simp only[rtA,h,h1,h2,Bool.and_self,cond_true]
theorem sJ {s:St} {τ:Nat->AV} {β:Nat->BX} {ε:Nat->EN} {π:Nat->MP} (h:s=⟨τ,β,ε,π⟩) (n:Nat):τ n=s.t n:=by rw[h]
theorem C9 {s:St} {τ:Nat->AV} {β:Nat->BX} {ε:Nat->EN} {π:Nat->MP} (h:s=⟨τ,β,ε,π⟩) (n:Nat):β n=s.b n:=by rw[h]
theorem H3 (v d:Int) (hd:0<=d/\d<4294967296):(or64 (v % 2147483647*4294967296 % 18446744073709551616) (d % 18446744073709551616)).tmod 2147483647=(d+4294967296*v) % 2147483647:=by
 have e1:v % 2147483647*4294967296 % 18446744073709551616=v % 2147483647*4294967296:=aw;have e2:d % 18446744073709551616=d:=aw;rw[e1,e2,pZ aw hd,Int.tmod_eq_emod_of_nonneg aw];omega
theorem ib:jq:=by
 intro z hz;refine oI (fn:=Tryz.f246) av rfl rfl rfl av au av ?_;refine WPn.seq_k kd fun K hK _=>?_;simp -dsimp only[go_sem];refine hK _ ?_;refine WPn.seq_k kd fun K hK _=>?_;simp -dsimp only[go_sem];refine hK _ ?_;refine WPn.seq ?_;refine WPn.seq_k kd fun K hK _=>?_;simp -dsimp only[go_sem];refine oB [1000] rfl rfl rfl (Np ((lb z).map bG)) au rfl ?_;rw[AD];simp -dsimp only[go_sem];refine hK _ (WPn.block (WPn.rangeFunc (ts:=[(1000,1)]) [3] (fun k cs=>cs=[[C.v (.int .u64 (val ((lb z).drop ((lb z).length-k)) % 2147483647))]]) (fun _ _=>False) (by simp -dsimp only[go_sem]) (by simp -dsimp only[go_sem]) au rfl (No (lb z) aw) au (by simp -dsimp only[go_sem];decide) ?_ ?_ ?_ ?_ ?_))
 ·simp -dsimp only[go_sem];simp;rfl
 ·intro x hx;obtain⟨p,-,rfl⟩:=List.mem_map.1 hx;rfl
 ·rintro k x cs hx rfl -;have hk:k<(lb z).length:=by
   have:=(List.getElem?_eq_some_iff.1 hx).1;rwa [jL]at this
  have hx2:=oC (fun d:Int=>(.c (.v (.int .u32 d)):IV)) (lb z) (i:=(lb z).length-(k+1)) aw;rw[show(lb z).length-((lb z).length-(k+1)+1)=k by omega,hx]at hx2;cases hx2;generalize hs:bV _ _ _ _ _=s;obtain⟨τ,β,ε,π⟩:=s;have h10:τ 10 = .i (.c (.v (.int .u32 (lb z)[(lb z).length-(k+1)]))):=by
   rw[sJ hs];simp -dsimp only[go_sem,bV,jm]
  have h3:τ 3 = .bp 3 1 0:=by
   rw[sJ hs];simp -dsimp only[go_sem,bV,jm];rw[pb]<;>simp -dsimp only[go_sem]
  have b3:β 3=⟨1,[C.v (.int .u64 (val ((lb z).drop ((lb z).length-k)) % 2147483647))]⟩:=by
   rw[C9 hs];simp -dsimp only[go_sem,bV,fe]
  clear hs;refine WP.end_k kd fun K hK=>?_;simp -dsimp only[go_sem,h10];refine hK _ _ ⟨rfl,?_⟩;refine WP.end_k kd fun K hK=>?_;simp -dsimp only[go_sem,h10,h3,b3];refine⟨aH,hK _ _ ⟨by simp -dsimp only[go_sem],?_⟩⟩;simp -dsimp only[go_sem];have hv:=cd (l:=lb z) (i:=(lb z).length-(k+1)) aw;rw[show(lb z).length-(k+1)+1=(lb z).length-k by omega]at hv;rw[H3 _ _ ((bU z).get aw),<-hv]
 ·rintro cs γs rfl-hγ;obtain⟨g,rfl⟩:=List.length_eq_one_iff.1 hγ;rw[jL,Nat.sub_self,List.drop_zero,bD];rw[iP,jw];refine WPn.end_k kd fun K hK=>?_;dsimp only[List.map,setB];have hm:=pf z;by_cases hz0:z<0
  ·have e1:decide (z<0)=true:=aF hz0;by_cases hr:(z.natAbs:Int) % 2147483647=0
   ·have e0:decide ((0:Int)<0)=false:=rfl;simp -dsimp only[go_sem,e1,hr,e0];refine hK _ _ ⟨.inr rfl,?_⟩;simp -dsimp only[go_sem];rw[iz,hm,show z % 2147483647=0 by omega]
   ·have e2:decide (0<(z.natAbs:Int) % 2147483647)=true:=aF aw;simp -dsimp only[go_sem,e1,e2];refine hK _ _ ⟨.inr rfl,?_⟩;simp -dsimp only[go_sem];rw[iz,hm,show(2147483647-(z.natAbs:Int) % 2147483647) % 18446744073709551616=z % 2147483647 by omega]
  ·have e1:decide (z<0)=false:=aG hz0;simp -dsimp only[go_sem,e1];refine hK _ _ ⟨.inr rfl,?_⟩;simp -dsimp only[go_sem];rw[iz,hm,show(z.natAbs:Int) % 2147483647=z % 2147483647 by omega]
 ·intro e cs γs _ h;exact h.elim
end Go.AM
