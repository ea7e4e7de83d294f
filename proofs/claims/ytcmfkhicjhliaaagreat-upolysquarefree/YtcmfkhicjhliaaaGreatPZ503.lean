/- Lemmas, part 4 of 23. No condition. -/
import Derived.Test.YtcmfkhicjhliaaaGreatPZ502
import Derived.RangeFuncLeaves
import Derived.RangeFuncRecord
set_option maxRecDepth 65536
set_option linter.unusedSimpArgs false
set_option linter.unusedVariables false
set_option linter.unusedSectionVars false
namespace Go.AM
def s8 (o:Oper):Bool:=match o.op with | .store .. => true|_=>false
def j6 (o:Oper):Bool :=
 match o.op with
 | .extract _ _=>true
 | .build _ ps=>ps.toList.isEmpty
 | .load _ (.tmp _)=>true
 | _=>false
def isLoad (o:Oper):Bool:=match o.op with | .load .. => true|_=>false
def qo (kind:FuncId->CK) (ops:List Oper) (i0:Nat):Bool :=
 let k:=a7 kind ops
 let n:=ops.length
 ((List.range n).all fun i=>((ops[i]?).map fun o=>o.after.all fun e => !Region.binds .any e || decide (e.on<i)).getD true) &&
 ((List.range k).all fun i=>(List.range k).all fun j=>decide (i=j) || ((ops[i]?).bind (·.dst)).isNone || decide ((ops[i]?).bind (·.dst)≠(ops[j]?).bind (·.dst))) &&
 ((List.range k).all fun i=>(List.range k).all fun j=>decide (i=j) || ((ops[i]?).map fun o=>((ops[j]?).bind (·.dst)).all fun d => !(dM ops o).contains d ||
   (decide (j<i) && (gg ops i).testBit j) || (decide (i<j) && (gg ops j).testBit i)).getD true) &&
 ((List.range n).all fun j=>decide (j<k) || (List.range j).all fun i=>(gg ops j).testBit i || (decide (i=i0) && ((ops[j]?).map fun o=>s8 o && o.guard.isNone && ((ops[i0]?).bind (·.dst)).all fun d => !(dM ops o).contains d).getD false)) &&
 ((List.range k).all fun i=>(List.range k).all fun j=>decide (i=j) || !((ops[i]?).map (ef kind)).getD false || !((ops[j]?).map (ef kind)).getD false || ((ops[i]?).map (j8 kind)).getD false && ((ops[j]?).map (j8 kind)).getD false) &&
 (decide (i0<k) && !(ops.take k).any (ef kind) && ((ops[i0]?).map fun o=>j6 o && o.guard.isNone && o.dst.isSome && o.dst.all fun d => !(dM ops o).contains d).getD false)
theorem yb {kind:FuncId->CK} {ops:List Oper} {i0:Nat} (h:qo kind ops i0=true) :
  (∀ i o,ops[i]?=some o->∀ e∈o.after,Region.binds .any e=true->e.on<i) /\
  (∀ i j,i<a7 kind ops->j<a7 kind ops->i≠j->∀ d,bO ops i=some d->bO ops j≠some d) /\
  (∀ i j,i<a7 kind ops->j<a7 kind ops->i≠j->∀ o d,ops[i]?=some o->bO ops j=some d->d∈dM ops o->(j<i/\(gg ops i).testBit j=true)\/(i<j/\(gg ops j).testBit i=true)) /\
  (∀ i j,a7 kind ops<=j->j<ops.length->i<j->(gg ops j).testBit i=true\/(i=i0/\∀ o,ops[j]?=some o->s8 o=true/\o.guard=none/\∀ d,bO ops i0=some d->d ∉ dM ops o)) /\
  (∀ i j,i<a7 kind ops->j<a7 kind ops->i≠j->∀ o o',ops[i]?=some o->ops[j]?=some o'->ef kind o=true->ef kind o'=false\/(j8 kind o=true/\j8 kind o'=true)) /\
  i0<a7 kind ops/\(ops.take (a7 kind ops)).any (ef kind)=false/\∃ o d,ops[i0]?=some o/\j6 o=true/\o.guard=none/\o.dst=some d/\d ∉ dM ops o:=by
 unfold qo at h;simp only[Bool.and_eq_true,List.all_eq_true,List.mem_range]at h;obtain⟨⟨⟨⟨⟨h1,h2⟩,h3⟩,h4⟩,h5⟩,⟨h6,h6'⟩,h7⟩:=h;refine⟨?_,?_,?_,?_,?_,by simpa using h6,by simpa using h6',?_⟩
 ·intro i o ho e he hb;have hi:i<ops.length:=(List.getElem?_eq_some_iff.1 ho).1;have:=h1 i hi;simp only[ho,Option.map_some,Option.getD_some,Array.all_eq_true_iff_forall_mem]at this;have:=this e he;simp[hb]at this;exact this
 ·intro i j hi hj hij d hd hd';have:=h2 i hi j hj;simp only[bO]at hd hd';simp[hij,hd,hd']at this
 ·intro i j hi hj hij o d ho hd hr;have:=h3 i hi j hj;simp only[bO]at hd;simp[hij,ho,hd]at this;rcases this with(this|this)|this
  ·exact absurd hr this
  ·exact .inl this
  ·exact .inr this
 ·intro i j h1 h2 hij;have:=h4 j h2;simp only[Bool.or_eq_true,decide_eq_true_eq,List.all_eq_true,List.mem_range]at this;rcases this with this|this
  ·omega
  ·rcases this i hij with this|this
   ·exact .inl this
   ·right;simp only[Bool.and_eq_true,decide_eq_true_eq]at this;refine⟨this.1,fun o ho=>?_⟩;have h8:=this.2;simp only[ho,Option.map_some,Option.getD_some,Bool.and_eq_true]at h8;refine⟨h8.1.1,by simpa using h8.1.2,fun d hd=>?_⟩;simp only[bO]at hd;have h9:=h8.2;simp[hd]at h9;exact h9
 ·intro i j hi hj hij o o' ho ho' he;have:=h5 i hi j hj;simp[hij,ho,ho',he]at this;exact this
 ·cases ho:ops[i0]? with
  | none=>simp[ho]at h7
  | some o =>
   simp only[ho,Option.map_some,Option.getD_some,Bool.and_eq_true]at h7;cases hd:o.dst with
   | none=>simp[hd]at h7
   | some d=>exact⟨o,d,rfl,h7.1.1.1,by simpa using h7.1.1.2,hd,by have:=h7.2;rw[hd]at this;simpa using this⟩
section
variable {ρ:Option Nat} {P:Program} {kind:FuncId->CK} {D:Option DI} {W0:cW} {M0:Nat->Prop} {N:Nat} {st:St} {G:Gh} {w:World} {a:Act} {o:Oper} {Q:Exit->Act->World->Prop} {δ:Dl} {K:St->Prop}
variable {ops:Array Oper} {δs:Nat->Dl}
theorem uB {st':St} (hl:j6 o=true) (ht:∀ x∈o.op.operands,st'.ev x=st.ev x) (he:st'.e=st.e)
  (hb:∀ T z t g off,o.op = .load T z->st.ev z = .bp t g off->st'.b t=st.b t) (h:bu P kind D o st δ):bu P kind none o st' δ:=by
 unfold bu at h ⊢;unfold j6 at hl;cases ho:o.op with
 | extract x n =>
  rw[ho]at h ht;dsimp only at h ⊢;rw[ht x (by simp[Op.operands])];exact h
 | build T ps =>
  rw[ho]at h hl;dsimp only at h hl ⊢;have hp:ps.toList=[]:=by simpa using hl
  obtain⟨ti,z,pl,l,cs,h1,h2,h3,h4,h5,h6,h7,h8,h9⟩:=h;refine⟨ti,z,pl,l,cs,h1,h2,h3,h4,h5,?_,by rw[hp];simp,h8,h9⟩;unfold St.partCells at h6 ⊢;rw[hp]at h6 ⊢;exact h6
 | load T x =>
  rw[ho]at h ht;dsimp only at h ⊢;obtain⟨ti,cs,iv,h1,h2,h3,h4⟩:=h;have hx:=ht x (by simp[Op.operands]);refine⟨ti,cs,iv,h1,?_,h3,h4⟩;rw[hx];generalize hv:st.ev x=v at *
  cases v with
  | bp t g off =>
   obtain⟨k1,k2,k3,k4⟩:=h2;have e:=hb T x t g off ho hv;exact⟨by rw[e];exact k1,k2,trivial,by rw[e];exact k4⟩
  | ep t g i off =>
   obtain⟨k1,k2,k3,k4⟩:=h2;exact⟨by rw[he];exact k1,k2,trivial,by rw[he];exact k4⟩
  | ip l=>exact h2
  | _=>exact h2.elim
 | _=>rw[ho]at hl;simp at hl
theorem Cu (hl:j6 o=true) (h:bu P kind D o st δ):δ.nb=none/\δ.ne=none:=by
 have:=rh h;have h1:su o=false:=by
  unfold j6 at hl;unfold su;cases ho:o.op<;>simp[ho]at hl ⊢
 have h2:ef kind o=false:=by
  unfold j6 at hl;unfold ef;cases ho:o.op<;>simp[ho]at hl ⊢
 refine⟨?_,?_⟩
 ·cases hn:δ.nb with
  | none=>rfl
  | some x=>have:=this.1 (by rw[hn];simp);rw[h1]at this;simp at this
 ·cases hn:δ.ne with
  | none=>rfl
  | some x=>have:=this.2 (by rw[hn];simp);rw[h2]at this;simp at this
inductive M9 (P:Program) (kind:FuncId->CK) (W0:cW) (M0:Nat->Prop) (N:Nat) (ops:Array Oper) (st:St) (δ:Nat->Dl) (K:St->Prop) (i0:Nat) (F:Nat->Bool) (a:Act) (w:World):Prop
 | inv (h:Inv P kind W0 M0 N ops st δ K F a w)
 | late (m:Nat) (hm:a7 kind ops.toList<m) (h1:∀ j,j<m->j≠i0->F j=true) (h0:F i0=false) (h2:∀ j,m<=j->F j=false) (s0:St) (G:Gh) (S:Sim W0 M0 N s0 G w a)
   (ht:∀ d,bO ops.toList i0≠some d->s0.t d=(bK ops.toList st δ (fun _=>true) (a7 kind ops.toList)).t d)
   (hL:∀ o,ops.toList[i0]?=some o->bu P kind none o s0 (δ i0)) (hK:jD P kind none ops (ops.toList.drop m) K (s0.app (bO ops.toList i0) (δ i0)))
theorem Jw {s:St} {dst:Option Tmp} {δ:Dl} {x:Operand} (h:∀ d,dst=some d->x ≠ .tmp d):(s.app dst δ).ev x=s.ev x:=by
 cases x with
 | tmp n =>
  simp only[St.ev];rw[wV,if_neg (fun e=>h n e rfl)]
 | _=>rfl
theorem Oq {s s':St} (h:s'.e=s.e) (v:AV):s'.toIV v=s.toIV v:=by
 cases v<;>simp only[St.toIV];rw[h]
def lC (o:Oper):Option Operand:=match o.op with | .load _ z=>some z|_=>none
def DF (o:Oper):List Operand:=match o.op with | .store _ x _=>[x]|_=>[]
def j3 (kind:FuncId->CK) (ops:List Oper) (i0:Nat):List Operand :=
 (List.range ops.length).flatMap fun j=>if a7 kind ops<=j/\(gg ops j).testBit i0=false then((ops[j]?).map DF).getD []else[]
def rn (z:Option AV) (v:AV):Prop :=
 match v,z with
 | .bp _ _ _,none=>True
 | .bp t _ _,some (.bp t' _ _)=>t≠t'
 | _,_=>False
theorem Ct {dst:Option Tmp} {s0:St} {K':St->Prop} (hs:s8 o=true) (hn:δ.nb=none/\δ.ne=none) (hr:∀ x∈o.op.operands,∀ d,dst=some d->x ≠ .tmp d) (h:AOp P kind none o K' (s0.app dst δ)) :
  AOp P kind none o (fun s=>s.t=s0.t/\s.e=s0.e/\(∀ t,(∀ T x y g off,o.op = .store T x y->s0.ev x = .bp t g off->False)->s.b t=s0.b t)/\K' (s.app dst δ)) s0\/∃ T x y t g i off,o.op = .store T x y/\s0.ev x = .ep t g i off:=by
 unfold s8 at hs;cases ho:o.op with
 | store T x y =>
  unfold AOp at h ⊢;rw[ho]at h hr ⊢;dsimp only at h ⊢;obtain⟨h1,h2,ti,v,h3,h4,h5,h6⟩:=h;have ex:(s0.app dst δ).ev x=s0.ev x:=Jw fun d hd=>hr x (by simp[Op.operands]) d hd;have ey:(s0.app dst δ).ev y=s0.ev y:=Jw fun d hd=>hr y (by simp[Op.operands]) d hd;have ee:(s0.app dst δ).e=s0.e:=NV _ _ _ hn.2;rw[ey,Oq ee]at h4;rw[ex]at h6;generalize hv:s0.ev x=u at *
  cases u with
  | bp t g off =>
   left;obtain⟨k1,k2,k3,k4⟩:=h6;have eb:(s0.app dst δ).b=s0.b:=by funext t';exact NW _ _ _ _ (.inr hn.1)
   rw[eb]at k1 k3;refine⟨h1,h2,ti,v,h3,h4,h5,k1,k2,k3,rfl,rfl,fun t' ht'=>?_,?_⟩
   ·exact aT _ _ (fun e=>ht' T x y g off rfl (by rw[e];exact hv))
   ·have e:St.app { s0 with b:=upd s0.b t ⟨g,cJ (s0.b t).cs off v.cells⟩ } dst δ={ s0.app dst δ with b:=upd (s0.app dst δ).b t ⟨g,cJ ((s0.app dst δ).b t).cs off v.cells⟩ }:=by
     rw[eb];cases dst with
     | none=>rfl
     | some d=>simp only[St.app,hn.1,hn.2]
    rw[e];exact k4
  | ep t g i off=>exact .inr ⟨T,x,y,t,g,i,off,rfl,hv⟩
  | _=>exact h6.elim
 | _=>simp[ho]at hs
theorem CN {i0:Nat} (hN:∀(i:Nat) o,ops[i]?=some o->∀ d,o.dst=some d->d<N) (hok:qo kind ops.toList i0=true)
  (hstep:∀ i o,i<a7 kind ops.toList->ops.toList[i]?=some o->rK P kind (some (nQ kind ops.toList)) ops (bK ops.toList st δs (fun _=>true) i) o (δs i))
  (hK:jD P kind none ops (ops.toList.drop (a7 kind ops.toList)) K (bK ops.toList st δs (fun _=>true) (a7 kind ops.toList)))
  (hX:∀ x∈j3 kind ops.toList i0,rn ((((ops.toList[i0]?).bind lC)).map (bK ops.toList st δs (fun _=>true) (a7 kind ops.toList)).ev) ((bK ops.toList st δs (fun _=>true) (a7 kind ops.toList)).ev x))
  (hQ:∀ a' w',Met W0 M0 N K a' w'->Q .normal a' w') :
  ∀(fuel:Nat) (listed:Array Bool) (a:Act) (w:World),listed.size=ops.size->(List.range ops.size).countP (fun j => !listed.getD j false)<=fuel ->
   (∀ j,listed.getD j false=true->dX ops.toList (fun j=>listed.getD j false) j)->M9 P kind W0 M0 N ops st δs K i0 (fun j=>listed.getD j false) a w ->
   wpAnyIn (fen ρ) 0 P .any ops Q fuel listed a w:=by
 obtain⟨d1,d2,d3,d4,d5,hi0,heff,oL,dL,hoL,hlk,hgL,hdL,hown⟩:=yb hok;have hlen:a7 kind ops.toList<=ops.size:=by
  have:=(List.takeWhile_sublist (l:=ops.toList) (stable kind)).length_le;simpa [a7]using this
 have hdstL:bO ops.toList i0=some dL:=by simp[bO,hoL,hdL]
 have hget:∀ j,j<a7 kind ops.toList->∃ o,ops.toList[j]?=some o:=fun j hj=>⟨_,aD ar⟩;have hpart:∀ j o,j<a7 kind ops.toList->ops.toList[j]?=some o->((δs j).nb≠none->su o=true)/\((δs j).ne≠none->ef kind o=true):=by
  intro j o hj ho;rcases hstep j o hj ho with⟨_,hr⟩|⟨_,hr⟩
  ·exact rh hr
  ·rw[hr];simp
 have hne:∀ j,j<a7 kind ops.toList->(δs j).ne=none:=by
  intro j hj;obtain⟨o,ho⟩:=hget j hj;cases hn:(δs j).ne with
  | none=>rfl
  | some x =>
   have h1:=(hpart j o hj ho).2 (by rw[hn];simp);have h2:(ops.toList.take (a7 kind ops.toList)).any (ef kind)=true:=by
    rw[List.any_eq_true];exact⟨o,List.mem_of_getElem? (i:=j) (by rw[List.getElem?_take,if_pos hj];exact ho),h1⟩
   rw[heff]at h2;simp at h2
 have hrelL:bu P kind (some (nQ kind ops.toList)) oL (bK ops.toList st δs (fun _=>true) i0) (δs i0):=by
  rcases hstep i0 oL hi0 hoL with⟨_,hr⟩|⟨hg,_⟩
  ·exact hr
  ·unfold gd at hg;rw[hgL]at hg;simp at hg
 have hplain:=Cu hlk hrelL;have H:Kl kind ops.toList (a7 kind ops.toList) δs:={ dst:=d2,eff:=fun p q hp _ _ => .inl (hne p hp) };generalize hk:a7 kind ops.toList=k at *
 have hdone:∀(listed:Array Bool) (a:Act) (w:World),(∀ j,j<ops.size->listed.getD j false=true)->M9 P kind W0 M0 N ops st δs K i0 (fun j=>listed.getD j false) a w->Q .normal a w:=by
  intro listed a w hall hI;refine hQ a w ?_;cases hI with
  | late m hm h1 h0 h2 s0 G S ht hL hK' =>
   have:=hall i0 aw;rw[h0]at this;simp at this
  | inv hI =>
  cases hI with
  | head h G S =>
   rw[hk]at h S;have hk':k=ops.size:=by
    rcases Nat.lt_or_ge k ops.size with h1|h1
    ·have:=h _ (ay _);rw[hall _ h1]at this;simp at this
    ·omega
   rw[List.drop_eq_nil_of_le ar]at hK;rw[eY (g:=fun _=>true) fun j hj=>hall j aw]at S;exact⟨_,G,hK,S⟩
  | tail m hm h1 h2 st' G S hK' =>
   have:ops.size<=m:=by
    rcases Nat.lt_or_ge m ops.size with h3|h3
    ·have:=h2 m (ay _);rw[hall _ h3]at this;simp at this
    ·exact h3
   rw[List.drop_eq_nil_of_le ar]at hK';exact⟨_,G,hK',S⟩
 have hready:∀(listed:Array Bool),listed.size=ops.size->Region.ready .any ops listed=[]->∀ j,j<ops.size->listed.getD j false=true:=by
  intro listed hsz hr j
  induction j using Nat.strongRecOn with
  | _ j ih =>
   intro hj;cases hF:listed.getD j false with
   | true=>rfl
   | false =>
    exfalso;have:j∈Region.ready .any ops listed:=by
     refine mem_ready.2 ⟨?_,ops[j],by simp[hj],?_⟩
     ·rw[Array.getD_eq_getD_getElem?]at hF ⊢;have h1:j<listed.size:=aw;simp only[Array.getElem?_eq_getElem h1,Option.getD_some]at hF ⊢;exact hF
     ·intro e he hb;have hlt:=d1 j ops[j] (by simp[hj]) e he hb;exact ih e.on hlt aw
    rw[hr]at this;simp at this
 have storeStep:∀(m:Nat) (F:Nat->Bool) (s0:St) (G:Gh) (a:Act) (w:World) (K':Act->World->Prop),k<=m->(hlt:m<ops.size)->(gg ops.toList m).testBit i0=false->(∀ j,j<m->j≠i0->F j=true)->F i0=false->(∀ j,m<=j->F j=false) ->
   Sim W0 M0 N s0 G w a->(∀ d,bO ops.toList i0≠some d->s0.t d=(bK ops.toList st δs (fun _=>true) k).t d)->(∀ o,ops.toList[i0]?=some o->bu P kind none o s0 (δs i0)) ->
   jD P kind none ops (ops.toList.drop m) K (s0.app (bO ops.toList i0) (δs i0))->(∀ a' w',M9 P kind W0 M0 N ops st δs K i0 (fun j=>F j || j == m) a' w'->K' a' w')->wpOpIn (fen ρ) 0 P ops Q m K' a w:=by
  intro m F s0 G a w K' hkm hlt hbf h1 h0 h2 S ht hL hKt hK';have hom:ops.toList[m]?=some ops[m]:=by simp[hlt]
  have hom':ops[m]?=some ops[m]:=by simp[hlt]
  obtain⟨_,hprop⟩:=(d4 i0 m hkm (by simpa using hlt) aw).resolve_left (by rw[hbf];simp);obtain⟨hst,hgn,hnr⟩:=hprop _ hom;have hd:ops.toList.drop m=ops[m]::ops.toList.drop (m+1):=by
   rw[List.drop_eq_getElem_cons (by simpa using hlt)];simp
  rw[hd]at hKt;obtain⟨t,hg,htt,_⟩:=hKt;have ht1:t=true:=by unfold gd at hg;rw[hgn]at hg;simpa using hg.symm
  have hA:=htt ht1;have hnr':∀ x∈ops[m].op.operands,∀ d,bO ops.toList i0=some d->x ≠ .tmp d:=by
   intro x hx d hdd e;subst e;refine hnr d hdd ?_;unfold dM;rw[List.mem_append];exact .inl (List.mem_filterMap.2 ⟨.tmp d,by simpa using hx,rfl⟩)
  have hmemX:∀ T x y,ops[m].op = .store T x y->x∈j3 kind ops.toList i0:=by
   intro T x y e;unfold j3;rw[List.mem_flatMap];refine⟨m,List.mem_range.2 (by simpa using hlt),?_⟩;rw[hk,if_pos ⟨hkm,hbf⟩,hom];simp[DF,e]
  have evx:∀ x:Operand,(∀ d,bO ops.toList i0=some d->x ≠ .tmp d)->s0.ev x=(bK ops.toList st δs (fun _=>true) k).ev x:=by
   intro x hx;cases x with
   | tmp n=>exact ht n (fun e=>hx n e rfl)
   | _=>rfl
  have hXm:∀ T x y,ops[m].op = .store T x y->rn ((lC oL).map (bK ops.toList st δs (fun _=>true) k).ev) (s0.ev x):=by
   intro T x y e;rw[evx x (hnr' x (by rw[e];simp[Op.operands]))];have:=hX x (hmemX T x y e);rw[hoL]at this;exact this
  rcases Ct (s0:=s0) hst hplain hnr' hA with hS|⟨T,x,y,t',g,i',off,e1,e2⟩
  ·simp only[wpOpIn,hom'];have hw:Region.wanted ops[m] (yielded ops a.tmps)=true:=by unfold Region.wanted;rw[hgn]
   rw[hw];simp only[if_true];refine cn (pG hS) (Oper.wp_mono ?_ (iG (Q:=Q) S (hN m _ hom') hS));rintro a' w' ⟨s1,G1,⟨q1,q2,q3,q4⟩,S1⟩;refine hK' a' w' (.late (m+1) aw ?_ ?_ ?_ s1 G1 S1 ?_ ?_ q4)
   ·intro j hj hji;by_cases e:j=m
    ·simp[e]
    ·simp[h1 j aw hji]
   ·have:(i0 == m)=false:=by simp;omega
    simp[h0,this]
   ·intro j hj;have:(j == m)=false:=by simp;omega
    simp[h2 j aw,this]
   ·intro d hdd;rw[q1,hk];exact ht d hdd
   ·intro o ho;have ho':o=oL:=by rw[hoL]at ho;exact(Option.some.inj ho).symm
    subst ho';refine uB hlk (fun x _=>by cases x<;>simp only[St.ev,q1]) q2 (fun T z t g off e1 e2=>q3 t fun T' x y g' off' e3 e4=>?_) (hL o ho);have:=hXm T' x y e3;rw[e4]at this;have hz:(lC o).map (bK ops.toList st δs (fun _=>true) k).ev=some (.bp t g off):=by
     have hz1:s0.ev z=(bK ops.toList st δs (fun _=>true) k).ev z:=by
      refine evx z fun d hdd e=>?_;subst e;rw[hdstL]at hdd;cases hdd;refine hown ?_;unfold dM;rw[List.mem_append];exact .inl (List.mem_filterMap.2 ⟨.tmp dL,by rw[e1];simp[Op.operands],rfl⟩)
     simp only[lC,e1,Option.map_some];rw[<-hz1,e2]
    rw[hz]at this;exact this rfl
  ·have:=hXm T x y e1;rw[e2]at this;exact this.elim
 intro fuel
 induction fuel with
 | zero =>
  intro listed a w hsz hc hcl hI;have hall:∀ j,j<ops.size->listed.getD j false=true:=by
   intro j hj;have h0:(List.range ops.size).countP (fun j => !listed.getD j false)=0:=aw;have:=(List.countP_eq_zero.1 h0) j (List.mem_range.2 hj);simpa using this
  refine⟨?_,hdone listed a w hall hI⟩;cases hr:Region.ready .any ops listed with
  | nil=>rfl
  | cons j l =>
   have hj:j∈Region.ready .any ops listed:=by rw[hr];simp
   obtain⟨h1,o,ho,_⟩:=mem_ready.1 hj;have hjs:j<ops.size:=(Array.getElem?_eq_some_iff.1 ho).1;have h2:=hall j hjs;rw[Array.getD_eq_getD_getElem?]at h1 h2;have h3:j<listed.size:=aw;simp only[Array.getElem?_eq_getElem h3,Option.getD_some]at h1 h2;rw[h1]at h2;simp at h2
 | succ fuel ih =>
  intro listed a w hsz hc hcl hI;refine⟨fun hr=>hdone listed a w (hready listed hsz hr) hI,?_⟩;intro i hi;obtain⟨h1,o,ho,he⟩:=mem_ready.1 hi;have hlt:i<ops.size:=(Array.getElem?_eq_some_iff.1 ho).1;have h3:i<listed.size:=aw;have hFi:listed.getD i false=false:=by
   rw[Array.getD_eq_getD_getElem?]at h1 ⊢;simp only[Array.getElem?_eq_getElem h3,Option.getD_some]at h1 ⊢;exact h1
  have hei:dX ops.toList (fun j=>listed.getD j false) i:=by
   intro o' ho' e he' hb;simp only[Array.getElem?_toList,ho,Option.some.injEq]at ho';subst ho';exact he e he' hb
  have hF':(fun j=>(listed.setIfInBounds i true).getD j false)=fun j=>listed.getD j false || j == i:=by
   funext j;by_cases e:j=i
   ·subst e;simp[h3]
   ·rw[getD_set_ne false (Ne.symm e)];have:(j == i)=false:=by simp[e]
    simp[this]
  have hnext:∀ a' w',M9 P kind W0 M0 N ops st δs K i0 (fun j=>listed.getD j false || j == i) a' w'->wpAnyIn (fen ρ) 0 P .any ops Q fuel (listed.setIfInBounds i true) a' w':=by
   intro a' w' hI';refine ih _ a' w' (by simp[hsz]) ?_ ?_ (by rw[hF'];exact hI')
   ·have:=oz (p:=fun j => !listed.getD j false) (q:=fun j => !(listed.setIfInBounds i true).getD j false) (i:=i) ?_ (by simp[hFi]) (by simp[h3]) (List.mem_range.2 hlt)
    ·omega
    ·intro j hj;cases hh:listed.getD j false with
     | false=>rfl
     | true=>rw[getD_set_true hh]at hj;simp at hj
   ·intro j hj o' ho' e he' hb;have hj':(listed.getD j false || j == i)=true:=by rw[<-congrFun hF' j];exact hj
    refine getD_set_true ?_;simp only[Bool.or_eq_true,beq_iff_eq]at hj';rcases hj' with hj'|hj'
    ·exact hcl j hj' o' ho' e he' hb
    ·subst hj';exact hei o' ho' e he' hb
  have hall_before:k<=i->∀ j,j<i->listed.getD j false=true\/(j=i0/\(gg ops.toList i).testBit i0=false):=by
   intro hki j hj;cases hb:(gg ops.toList i).testBit j with
   | true=>exact .inl (kh (F:=fun j=>listed.getD j false) hcl hei hb)
   | false =>
    rcases d4 j i hki (by simpa using hlt) hj with h4|⟨h4,_⟩
    ·rw[hb]at h4;simp at h4
    ·subst h4;exact .inr ⟨rfl,hb⟩
  cases hI with
  | inv hI =>
   cases hI with
   | head h G S =>
    rcases Nat.lt_or_ge i k with hik|hik
    ·exact wB (bk:=false) hN (by rw[hk];exact d2) (by rw[hk];exact d3) (by rw[hk];exact d5) (by rw[hk];exact hstep) hcl (by rw[hk];exact hik) hlt hFi hei S fun G1 a1 w1 S1=>hnext a1 w1 (.inv (.head (fun j hj=>by
      rw[hk]at hj;have:(j == i)=false:=by simp;omega
      simp[h j (by rw[hk];exact hj),this]) G1 S1))
    ·have hb:=hall_before hik;have hik':i=k:=by
      rcases Nat.lt_or_ge k i with h4|h4
      ·have:=h k (by rw[hk];exact ay _);rcases hb k h4 with h5|⟨h5,_⟩
       ·rw[h5]at this;simp at this
       ·omega
      ·omega
     cases hL0:listed.getD i0 false with
     | true =>
      have hall:∀ j,j<i->listed.getD j false=true:=fun j hj=>by
       rcases hb j hj with h5|⟨h5,_⟩
       ·exact h5
       ·subst h5;exact hL0
      rw[hk,eY (g:=fun _=>true) fun j hj=>hall j aw]at S;exact oi (δs:=δs) (m:=k) hN (by rw[hk];exact ay _) (fun j hj=>hall j aw) (fun j hj=>h j (by rw[hk];exact hj)) S hK hik' hlt (fun a' w' h'=>hnext a' w' (.inv h'))
     | false =>
      have hbf:(gg ops.toList i).testBit i0=false:=by
       rcases hb i0 aw with h5|⟨_,h5⟩
       ·rw[hL0]at h5;simp at h5
       ·exact h5
      have hothers:∀ j,j<i->j≠i0->listed.getD j false=true:=fun j hj hji=>(hb j hj).resolve_right fun h5=>hji h5.1;subst hik';have hins:(bK ops.toList st δs (fun j=>listed.getD j false) i).app (bO ops.toList i0) (δs i0)=bK ops.toList st δs (fun _=>true) i:=by
       rw[<-np H hL0 (ay i) hi0];refine eY fun j hj=>?_;by_cases e:j=i0
       ·simp[e]
       ·simp[hothers j hj e]
      rw[hk]at S;refine storeStep i (fun j=>listed.getD j false) (bK ops.toList st δs (fun j=>listed.getD j false) i) G a w _ (ay _) hlt hbf hothers hL0 (fun j hj=>h j (by rw[hk];exact hj)) S ?_ ?_ (by rw[hins];exact hK) hnext
      ·intro d hdd;rw[<-hins,wV,if_neg hdd]
      ·intro o' ho';have ho'':o'=oL:=by rw[hoL]at ho';exact(Option.some.inj ho').symm
       subst ho'';have hallT:∀ d,d∈dM ops.toList o'->(bK ops.toList st δs (fun j=>listed.getD j false) i).t d=(bK ops.toList st δs (fun _=>true) i0).t d:=by
        intro d hd;have est:bK ops.toList st δs (fun _=>true) i0=bK ops.toList st δs (fun j=>decide (j<i0)) i:=by
         rw[rc (i:=i0) (m:=i) aw (fun j h1 _=>by simp;omega)];exact eY fun j hj=>by simp[hj]
        rw[est];refine BS fun j hj hdj=>?_;by_cases e:i0=j
        ·subst e;simp[hL0]
        ·rcases d3 i0 j hi0 hj e _ d hoL hdj hd with⟨h1,h2⟩|⟨h1,h2⟩
         ·simp[hothers j hj (Ne.symm e),h1]
         ·exfalso;have:=kh (F:=fun j=>listed.getD j false) hcl (hcl j (hothers j hj (Ne.symm e))) h2;rw[hL0]at this;simp at this
       refine uB hlk (fun x hx=>?_) ?_ (fun T z t g off e1 e2=>?_) hrelL
       ·cases x with
        | tmp n =>
         simp only[St.ev];refine hallT n ?_;unfold dM;rw[List.mem_append];exact .inl (List.mem_filterMap.2 ⟨.tmp n,by simpa using hx,rfl⟩)
        | _=>rfl
       ·rw[ua fun j hj _=>hne j hj,ua fun j hj _=>hne j aw]
       ·have hal:(nQ kind ops.toList).al.contains t=false:=by
         have h6:=hrelL;unfold bu at h6;rw[e1]at h6;dsimp only at h6;obtain⟨_,_,_,_,h7,_,_⟩:=h6;rw[e2]at h7;exact h7.2.2.1
        have hbnone:∀(f:Nat->Bool) (m:Nat),m<=i->(bK ops.toList st δs f m).b t=st.b t:=by
         intro f m hm;refine ub fun j hj _=>?_;obtain⟨o2,ho2⟩:=hget j aw;cases hn:(δs j).nb with
         | none=>exact .inr rfl
         | some cs =>
          refine .inl fun e=>?_;have hbx:=(hpart j o2 aw ho2).1 (by rw[hn];simp);have hmem:t∈(nQ kind ops.toList).al:=by
           simp only[nQ,hk];refine List.mem_filterMap.2 ⟨o2,?_,?_⟩
           ·exact List.mem_of_getElem? (i:=j) (by rw[List.getElem?_take,if_pos aw];exact ho2)
           ·simp only[bO,ho2,Option.bind_some]at e;simp[hbx,e]
          have hmem:=List.contains_iff_mem.2 hmem;rw[hal]at hmem;simp at hmem
        rw[hbnone _ _ (ay _),hbnone _ _ aw]
   | tail m hm h1 h2 st' G S hK' =>
    rw[hk]at hm;have him:m<=i:=by
     rcases Nat.lt_or_ge i m with h4|h4
     ·rw[h1 i h4]at hFi;simp at hFi
     ·exact h4
    have hb:=hall_before aw;have:i=m:=by
     rcases Nat.lt_or_ge m i with h4|h4
     ·have:=h2 m (ay _);rcases hb m h4 with h5|⟨h5,_⟩
      ·rw[h5]at this;simp at this
      ·omega
     ·omega
    exact oi (δs:=δs) hN (by rw[hk];exact hm) h1 h2 S hK' this hlt (fun a' w' h'=>hnext a' w' (.inv h'))
  | late m hm h1 h0 h2 s0 G S ht hL hK' =>
   rw[hk]at hm ht;by_cases hii:i=i0
   ·subst hii;have hoi:ops[i]?=some oL:=by simpa using hoL
    simp only[wpOpIn,hoi];have hw:Region.wanted oL (yielded ops a.tmps)=true:=by unfold Region.wanted;rw[hgL]
    rw[hw];simp only[if_true];refine cn (yT (hL _ hoL)) (Oper.wp_mono ?_ (rf (Q:=Q) S (hN i _ hoi) (hL _ hoL)));rintro a' w' ⟨G1,S1⟩;refine hnext a' w' (.inv (.tail m (by rw[hk];omega) ?_ ?_ (s0.app (bO ops.toList i) (δs i)) G1 ?_ hK'))
    ·intro j hj;by_cases e:j=i
     ·simp[e]
     ·simp[h1 j hj e]
    ·intro j hj;have:(j == i)=false:=by simp;omega
     simp[h2 j hj,this]
    ·have:bO ops.toList i=oL.dst:=by simp[bO,hoL]
     rw[this];exact S1
   ·have him:m<=i:=by
     rcases Nat.lt_or_ge i m with h4|h4
     ·rw[h1 i h4 hii]at hFi;simp at hFi
     ·exact h4
    have hb:=hall_before aw;have him':i=m:=by
     rcases Nat.lt_or_ge m i with h4|h4
     ·have:=h2 m (ay _);rcases hb m h4 with h5|⟨h5,_⟩
      ·rw[h5]at this;simp at this
      ·omega
     ·omega
    subst him';have hbf:(gg ops.toList i).testBit i0=false:=by
     rcases hb i0 aw with h5|⟨_,h5⟩
     ·rw[h0]at h5;simp at h5
     ·exact h5
    exact storeStep i _ s0 G a w _ aw hlt hbf h1 h0 h2 S ht hL hK' hnext
theorem As {i0:Nat} (hm:P.follows .mixedOrders=true) {id:Nat} (hN:∀(i:Nat) o,ops[i]?=some o->∀ d,o.dst=some d->d<N) (hok:qo kind ops.toList i0=true) (S:Sim W0 M0 N st G w a)
  (h:jD P kind (some (nQ kind ops.toList)) ops (ops.toList.take (a7 kind ops.toList)) (fun s=>(∀ x∈j3 kind ops.toList i0,rn ((((ops.toList[i0]?).bind lC)).map s.ev) (s.ev x))/\jD P kind none ops (ops.toList.drop (a7 kind ops.toList)) K s) st)
  (hQ:∀ a' w',Met W0 M0 N K a' w'->Q .normal a' w'):(Code.region id ops true).wpIn (fen ρ) 0 P Q a w:=by
 refine wpIn_region_any hm ?_;have hlen:a7 kind ops.toList<=ops.toList.length:=(List.takeWhile_sublist _).length_le;obtain⟨δs,_,⟨gx,g2⟩,g3⟩:=pq (L:=ops.toList) (ops.toList.take (a7 kind ops.toList)) 0 st st (fun _=>{ v := .any })
  (fun i hi=>by simp at hi;simp[List.getElem?_take];omega) (fun o ho=>by
   obtain⟨i,hi⟩:=List.getElem?_of_mem ho;rw[List.getElem?_take]at hi;split at hi
   ·rename_i hlt;exact kP hlt hi
   ·simp at hi) rfl h
 have e:(ops.toList.take (a7 kind ops.toList)).length=a7 kind ops.toList:=by rw[List.length_take];omega
 rw[e,Nat.zero_add]at g2 g3 gx;refine CN (δs:=δs) hN hok (fun i o hi ho=>g3 i o aw hi ho) g2 gx hQ _ _ _ _ au ?_ ?_ (.inv (.head (fun j _=>?_) G ?_))
 ·exact ax List.countP_le_length au
 ·intro j hj;rw[cj]at hj;simp at hj
 ·exact cj _ _
 ·have:∀ m,bK ops.toList st δs (fun j=>(Array.replicate ops.size false).getD j false) m=st:=by
   intro m
   induction m with
   | zero=>rfl
   | succ m ih=>simp only[bK,cj,Bool.false_eq_true,if_false];simpa only[cj]using ih
  rw[this];exact S.drew
end
def WP (P:Program) (c:Code) (Q:bg->St->Prop) (st:St):Prop :=
 ∀(ρ:Option Nat) (W0:cW) (M0:Nat->Prop) (N:Nat) (G:Gh) (w:World) (a:Act),Sim W0 M0 N st G w a->(∀ d∈asg c,d<N) ->
  c.wpIn (fen ρ) 0 P (fun e a' w'=>∃ x st' G',bz e=some x/\Q x st'/\Sim W0 M0 N st' G' w' a') a w
def bA (st st':St):Prop:=∀(W0:cW) (M0:Nat->Prop) (N:Nat) (G:Gh) (w:World) (a:Act),Sim W0 M0 N st G w a->∃ G',Sim W0 M0 N st' G' w a
theorem bA.refl (st:St):bA st st:=fun _ _ _ G _ _ S=>⟨G,S⟩
theorem bA.trans {s1 s2 s3:St} (h:bA s1 s2) (h':bA s2 s3):bA s1 s3:=fun W0 M0 N G w a S=>by
 obtain⟨G1,S1⟩:=h W0 M0 N G w a S;exact h' W0 M0 N G1 w a S1
theorem mz {p:Nat->Prop} (h:∃ n,p n):∃ n,p n/\∀ m,m<n->¬ p m:=by
 obtain⟨n,hn⟩:=h;revert hn
 induction n using Nat.strongRecOn with
 | _ n ih =>
  intro hn;by_cases hm:∃ m,m<n/\p m
  ·obtain⟨m,h1,h2⟩:=hm;exact ih m h1 h2
  ·exact⟨n,hn,fun m h1 h2=>hm ⟨m,h1,h2⟩⟩
noncomputable def least {p:Nat->Prop} (h:∃ n,p n):Nat:=Classical.choose (mz h)
theorem uz {p:Nat->Prop} (h:∃ n,p n):p (least h):=(Classical.choose_spec (mz h)).1
theorem Aa {p:Nat->Prop} (h:∃ n,p n) {n:Nat} (hn:p n):least h<=n:=by
 rcases Nat.lt_or_ge n (least h)with h1|h1
 ·exact absurd hn ((Classical.choose_spec (mz h)).2 n h1)
 ·exact h1
section
variable {P:Program} {kind:FuncId->CK} {Q Q':bg->St->Prop} {st st':St} {c x y:Code}
theorem WP.weak (hw:bA st st') (h:WP P c Q st'):WP P c Q st:=fun ρ W0 M0 N G w a S hd=>by
 obtain⟨G',S'⟩:=hw W0 M0 N G w a S;exact h ρ W0 M0 N G' w a S' hd
theorem WP.mono (h:WP P c Q st) (hq:∀ e s,Q e s->Q' e s):WP P c Q' st:=fun ρ W0 M0 N G w a S hd =>
 wpIn_mono (h ρ W0 M0 N G w a S hd) fun _ _ _ ⟨x,st',G',h1,h2,h3⟩=>⟨x,st',G',h1,hq _ _ h2,h3⟩
theorem WP.post (h:WP P c (fun e s=>∃ s',bA s s'/\Q e s') st):WP P c Q st:=fun ρ W0 M0 N G w a S hd =>
 wpIn_mono (h ρ W0 M0 N G w a S hd) fun _ a' w' ⟨x,st',G',h1,⟨s',h2,h2'⟩,h3⟩=>by
  obtain⟨G2,S2⟩:=h2 W0 M0 N G' w' a' h3;exact⟨x,s',G2,h1,h2',S2⟩
theorem WP.skip (h:Q .normal st):WP P .skip Q st:=fun _ _ _ _ G _ _ S _=>wpIn_skip ⟨.normal,st,G,rfl,h,S⟩
theorem WP.exit {id:Nat} (h:Q (.exit id) st):WP P (.exit id) Q st:=fun _ _ _ _ G _ _ S _=>wpIn_exit ⟨.exit id,st,G,rfl,h,S⟩
theorem WP.ret (h:Q .ret st):WP P .ret Q st:=fun _ _ _ _ G _ _ S _=>wpIn_ret ⟨.ret,st,G,rfl,h,S⟩
def jl (K:St->Prop) (Q:bg->St->Prop):bg->St->Prop
 | .normal,s=>K s
 | e,s=>Q e s
theorem WP.seq (h:WP P x (jl (fun s=>WP P y Q s) Q) st):WP P (.seq x y) Q st:=fun ρ W0 M0 N G w a S hd=>by
 refine wpIn_seq (wpIn_mono (h ρ W0 M0 N G w a S fun d hdm=>hd d (by simp[asg,hdm])) ?_);rintro e a' w' ⟨x',st',G',h1,h2,h3⟩;cases e with
 | normal =>
  cases h1;exact h2 ρ W0 M0 N G' w' a' h3 fun d hdm=>hd d (by simp[asg,hdm])
 | exit id=>cases h1;exact⟨_,st',G',rfl,h2,h3⟩
 | ret=>cases h1;exact⟨_,st',G',rfl,h2,h3⟩
 | goto l=>simp[bz]at h1
 | panic l=>simp[bz]at h1
 | outgrown=>simp[bz]at h1
theorem WP.cond {t:Operand} (b:Bool) (hb:st.ev t=sc (.bool b)) (ht:b=true->WP P x Q st) (hf:b=false->WP P y Q st):WP P (.cond t x y) Q st:=fun ρ W0 M0 N G w a S hd=>by
 have hv:=S.ev t;rw[hb]at hv;refine wpIn_cond_split (jW hv) (fun h=>?_) (fun h=>?_)
 ·exact ht h ρ W0 M0 N G w a S fun d hdm=>hd d (by simp[asg,hdm])
 ·exact hf h ρ W0 M0 N G w a S fun d hdm=>hd d (by simp[asg,hdm])
def mF (id:Nat) (Q:bg->St->Prop):bg->St->Prop
 | .exit id',s=>if id'=id then Q .normal s else Q (.exit id') s
 | e,s=>Q e s
theorem WP.block {id:Nat} (h:WP P x (mF id Q) st):WP P (.block id x) Q st:=fun ρ W0 M0 N G w a S hd=>by
 refine wpIn_block (wpIn_mono (h ρ W0 M0 N G w a S hd) ?_);rintro e a' w' ⟨x',st',G',h1,h2,h3⟩;cases e with
 | exit id' =>
  cases h1;simp only[Exit.inBlock];simp only[mF]at h2;split at h2
  ·rename_i e;rw[if_pos e];exact⟨_,st',G',rfl,h2,h3⟩
  ·rename_i e;rw[if_neg e];exact⟨_,st',G',rfl,h2,h3⟩
 | normal=>cases h1;exact⟨_,st',G',rfl,h2,h3⟩
 | ret=>cases h1;exact⟨_,st',G',rfl,h2,h3⟩
 | goto l=>simp[bz]at h1
 | panic l=>simp[bz]at h1
 | outgrown=>simp[bz]at h1
theorem WP.loop (I:Nat->St->Prop) {n:Nat} (h0:∃ s,bA st s/\I n s)
  (round:∀ n s,I n s->WP P x (jl (fun s'=>∃ s'' m,bA s' s''/\m<n/\I m s'') Q) s):WP P (.loop x) Q st:=fun ρ W0 M0 N G w a S hd=>by
 obtain⟨s0,hw,hI⟩:=h0;obtain⟨G0,S0⟩:=hw W0 M0 N G w a S
 suffices H:∀ n (s:St) G w a,I n s->Sim W0 M0 N s G w a->(Code.loop x).wpIn (fen ρ) 0 P (fun e a' w'=>∃ x st' G',bz e=some x/\Q x st'/\Sim W0 M0 N st' G' w' a') a w from H n s0 G0 w a hI S0
 intro n s G w a hI S;refine wpIn_loop (fun a w=>∃ n s G,I n s/\Sim W0 M0 N s G w a) (fun a w=>by
  classical
  exact if h:∃ n,∃ s G,I n s/\Sim W0 M0 N s G w a then least h else 0) ⟨n,s,G,hI,S⟩ ?_
 intro a w hex;have hex':∃ n,∃ s G,I n s/\Sim W0 M0 N s G w a:=hex;obtain⟨s,G,hI,S⟩:=uz hex';refine wpIn_mono (round _ s hI ρ W0 M0 N G w a S hd) ?_;rintro e a' w' ⟨x',st',G',h1,h2,h3⟩;cases e with
 | normal =>
  cases h1;obtain⟨s'',m,hw,hm,hI'⟩:=h2;obtain⟨G'',S''⟩:=hw W0 M0 N G' w' a' h3;have hex2:∃ n,∃ s G,I n s/\Sim W0 M0 N s G w' a':=⟨m,s'',G'',hI',S''⟩;refine⟨hex2,?_⟩;simp only[dif_pos hex',dif_pos hex2];exact Nat.lt_of_le_of_lt (Aa hex2 ⟨s'',G'',hI',S''⟩) hm
 | exit id=>cases h1;exact⟨_,st',G',rfl,h2,h3⟩
 | ret=>cases h1;exact⟨_,st',G',rfl,h2,h3⟩
 | goto l=>simp[bz]at h1
 | panic l=>simp[bz]at h1
 | outgrown=>simp[bz]at h1
theorem dW {id:Nat} {ops:Array Oper} {d:Bool} {N:Nat} (hd:∀ n∈asg (.region id ops d),n<N):∀(i:Nat) o,ops[i]?=some o->∀ n,o.dst=some n->n<N:=by
 intro i o ho n hn;refine hd n ?_;simp only[asg];exact List.mem_filterMap.2 ⟨o,by simpa using Array.mem_of_getElem? ho,hn⟩
theorem WP.region {id:Nat} {ops:Array Oper} (kind:FuncId->CK) (h:jD P kind none ops ops.toList (Q .normal) st):WP P (.region id ops false) Q st:=fun _ _ _ _ _ _ _ S hd =>
 xE (dW hd) S h fun _ _ ⟨st',G',h1,h2⟩=>⟨.normal,st',G',rfl,h1,h2⟩
theorem WP.draw {id:Nat} {ops:Array Oper} (kind:FuncId->CK) (hm:P.follows .mixedOrders=true) (hok:kW kind ops.toList=true) (h:∃ bk,jD P kind (some (diN kind ops.toList bk)) ops (ops.toList.take (a7 kind ops.toList)) (fun s=>∃ s',bA s s'/\jD P kind none ops (ops.toList.drop (a7 kind ops.toList)) (Q .normal) s') st):WP P (.region id ops true) Q st:=fun _ _ _ _ _ _ _ S hd =>
 CM hm (dW hd) hok S h fun _ _ ⟨st',G',h1,h2⟩=>⟨.normal,st',G',rfl,h1,h2⟩
end
def St.setT (st:St) (n:Nat) (v:AV):St:={ st with t:=upd st.t n v }
def St.freeze (st:St) (k:Nat):St:={ st with e:=upd st.e k { st.e k with m:=false,app:=false } }
def St.thaw (st:St) (n k sz:Nat) (rs:List (List C)):St :=
 {st with t:=upd st.t n (.sl k ((st.e k).gen+1) rs.length),e:=upd st.e k ⟨(st.e k).gen+1,sz,rs,false,true⟩ }
def St.rekey (st:St) (n k d len:Nat):St :=
 {st with t:=upd st.t n (.sl d ((st.e d).gen+1) len),e:=upd (upd st.e k ⟨(st.e k).gen+1,0,[],false,false⟩) d { st.e k with gen:=(st.e d).gen+1 } }
section
variable {W0:cW} {M0:Nat->Prop} {N:Nat} {st:St} {G:Gh} {w:World} {a:Act}
theorem Sim.setT (S:Sim W0 M0 N st G w a) {n:Nat} {v:AV} (h:eH w (G.M M0) st G v (a.tmps.getD n undef)):Sim W0 M0 N (st.setT n v) G w a:=by
 have hE:Evo st G (st.setT n v) G:=Evo.of_same rfl rfl rfl;refine{ m0:=S.m0,lkb:=S.lkb,lkp:=S.lkp,defers:=S.defers,size:=S.size,below:=S.below,fr:=fun m=>?_,bx:=S.bx,en:=S.en,mp:=S.mp,own:=S.own };simp only[St.setT];by_cases e:m=n
 ·subst e;rw[aN];exact h.mono (bE.refl _ _) hE
 ·rw[aT _ _ e];exact(S.fr m).mono (bE.refl _ _) hE
theorem bA.imm (st:St) (n:Nat) {x:IV} (h:st.toIV (st.t n)=some x):bA st (st.setT n (.i x)):=fun _ _ _ G _ _ S =>
 ⟨G,S.setT (lh S (S.fr n) h)⟩
theorem bA.freeze (st:St) (k:Nat):bA st (st.freeze k):=fun W0 M0 N G w a S=>by
 let G':Gh:={ G with own:=fun b=>if G.own b=some (.e k)then none else G.own b }
 have hM:∀ b,G'.M M0 b->G.M M0 b:=by
  rintro b (h|h)
  ·exact .inl h
  ·refine .inr fun e=>h ?_;simp[G',e]
 have hk:bE w (G.M M0) w (G'.M M0):=⟨ay _,fun b _ h=>⟨fun h'=>h (hM b h'),rfl⟩⟩;have hE:Evo st G (st.freeze k) G':=by
  refine⟨fun _ _ h=>⟨h,fun e _=>⟨e,rfl⟩⟩,fun t g h=>?_,fun _ _ h=>⟨h,fun e _=>⟨e,rfl,rfl⟩⟩⟩;by_cases e:t=k
  ·subst e;simp only[St.freeze,aN];exact⟨h,fun e' _=>⟨e',rfl,rfl,trivial,ay _⟩⟩
  ·simp only[St.freeze,aT _ _ e];exact⟨h,fun e' _=>⟨e',rfl,rfl,trivial,ay _⟩⟩
 have ho:∀ b q,q ≠ .e k->G.own b=some q->G'.own b=some q:=by
  intro b q hq h;simp[G',h,hq]
 refine⟨G',{ m0:=S.m0,lkb:=S.lkb,lkp:=S.lkp,defers:=S.defers.imp fun b h1 h2=>⟨h1,fun h=>h2 (hM b h)⟩,size:=S.size,below:=S.below,fr:=fun m=>(S.fr m).mono hk hE,bx:=fun t ht=>?_,en:=fun t ht=>?_,mp:=fun t ht=>?_,own:=fun b hb=>?_ }⟩
 ·obtain⟨h1,ys,T,h2,h3⟩:=S.bx t ht;exact⟨ho _ _ au h1,ys,T,h2,h3.mono hk⟩
 ·by_cases e:t=k
  ·subst e;simp only[St.freeze,aN]at ht ⊢;obtain⟨h1,h2,h3,h4⟩:=S.en t ht;refine⟨?_,h2,fun h=>by simp at h,fun _ h=>by simp at h⟩;rcases h1 with h1|⟨b,o,e1,e2,e3,e4⟩
   ·exact .inl h1
   ·refine .inr ⟨b,o,e1,e2,fun _=>?_,aS.mono hk rfl _ _ _ e4⟩;by_cases hm:(st.e t).m=true
    ·obtain⟨b',ys,T,f1,f2,f3,f4⟩:=h3 hm;obtain rfl:b=b':=by rw[e1]at f1;simp at f1;exact f1.1
     rintro (h|h)
     ·exact S.not_m0 (S.own b (by simp[f2])).1 h
     ·simp[G',f2]at h
    ·exact fun h=>e3 (by simpa using hm) (hM b h)
  ·simp only[St.freeze,aT _ _ e]at ht ⊢;exact mN.mono (G:=G) (G':=G') hk rfl rfl (fun b h=>⟨ho b _ (by simpa using e) h,rfl⟩) (S.en t ht)
 ·exact oN.mono (G:=G) (G':=G') hk (fun _ _=>rfl) (fun b k _ h=>⟨ho b _ au h,rfl⟩) (S.mp t ht)
 ·refine S.own b fun e=>hb ?_;simp[G',e]
theorem bA.thaw (st:St) (n k:Nat) {sz:Nat} {rs:List (List C)} (h:st.t n = .fl rs) (hsz:∀ r∈rs,r.length=sz):bA st (st.thaw n k sz rs):=fun W0 M0 N G w a S=>by
 have hv:=S.fr n;rw[h]at hv;obtain⟨p,len,hy,hl,hr⟩:=hv
 let G':Gh:={ G with E:=upd G.E k p,cap:=upd G.cap k len }
 have hk:bE w (G.M M0) w (G'.M M0):=bE.refl _ _;have hE:Evo st G (st.thaw n k sz rs) G':=by
  refine⟨fun _ _ h=>⟨h,fun e _=>⟨e,rfl⟩⟩,fun t g h=>?_,fun _ _ h=>⟨h,fun e _=>⟨e,rfl,rfl⟩⟩⟩;by_cases e:t=k
  ·subst e;simp only[St.thaw,aN];exact⟨aw,fun h' _=>by omega⟩
  ·simp only[St.thaw,G',aT _ _ e];exact⟨h,fun e' _=>⟨e',trivial,trivial,trivial,ay _⟩⟩
 refine⟨G',{ m0:=S.m0,lkb:=S.lkb,lkp:=S.lkp,defers:=S.defers,size:=S.size,below:=S.below,fr:=fun m=>?_,bx:=S.bx,en:=fun t ht=>?_,mp:=S.mp,own:=S.own }⟩
 ·by_cases e:m=n
  ·subst e;simp only[St.thaw,aN,eH];exact⟨ay _,fun _ _=>⟨ay _,by rw[hy,hl];simp[G',aN,qx,hl]⟩⟩
  ·have:=(S.fr m).mono hk hE;simp only[St.thaw,aT _ _ e]at this ⊢;exact this
 ·by_cases e:t=k
  ·subst e;simp only[St.thaw,aN,mN];refine⟨?_,by simp[G',aN,hl],fun h=>by simp at h,fun _ _=>by simp[G',aN,hl]⟩;rcases hr with hr|⟨b,off,sz',e1,e2,e3,e4⟩
   ·exact .inl hr
   ·refine .inr ⟨b,off,by simp[G',aN,e1],e2,fun _=>e3,?_⟩;cases rs with
    | nil=>simp only[aS]
    | cons r l =>
     have h1:=hsz r au;have h2:=(aS.lens e4) r au;rw[<-h1,h2];exact e4
  ·simp only[St.thaw,aT _ _ e]at ht ⊢;exact mN.mono (G:=G) (G':=G') hk (aT _ _ e) (aT _ _ e) (fun b h=>⟨h,rfl⟩) (S.en t ht)
def nw:C->C
 | .v (.slice none 0 0) => .lst []
 | c=>c
theorem BY {w:World} {M:Nat->Prop} {c:C} {y:Value} (h:cw w M c y):cw w M (nw c) y:=by
 unfold nw;split
 ·simp only[cw]at h ⊢;exact⟨none,0,0,h.1,au,au,au⟩
 ·exact h
theorem pS {w:World} {M:Nat->Prop} {b:Nat}:∀{cs:List C} {off:Nat},br w M cs b off->br w M (cs.map nw) b off
 | [],_,_=>by simp[br]
 | c::cs,off,h=>by
  simp only[br,List.map_cons]at h ⊢;obtain⟨⟨y,h1,h2⟩,h3⟩:=h;exact⟨⟨y,h1,BY h2⟩,pS h3⟩
theorem sf {w:World} {M:Nat->Prop} {b sz:Nat}:∀{rs:List (List C)} {off:Nat},aS w M rs b off sz->aS w M (rs.map (·.map nw)) b off sz
 | [],_,_=>by simp[aS]
 | r::rs,off,h=>by
  simp only[aS,List.map_cons]at h ⊢;exact⟨by simpa using h.1,pS h.2.1,sf h.2.2⟩
def St.relax (st:St) (k:Nat):St:={ st with e:=upd st.e k { st.e k with rs:=(st.e k).rs.map (·.map nw) } }
theorem bA.relax (st:St) (k:Nat):bA st (st.relax k):=fun W0 M0 N G w a S=>by
 have hE:Evo st G (st.relax k) G:=by
  refine⟨fun _ _ h=>⟨h,fun e _=>⟨e,rfl⟩⟩,fun t g h=>?_,fun _ _ h=>⟨h,fun e _=>⟨e,rfl,rfl⟩⟩⟩;by_cases e:t=k
  ·subst e;simp only[St.relax,aN];exact⟨h,fun h' _=>⟨h',trivial,trivial,trivial,au⟩⟩
  ·simp only[St.relax,aT _ _ e];exact⟨h,fun e' _=>⟨e',trivial,trivial,trivial,ay _⟩⟩
 refine⟨G,{ m0:=S.m0,lkb:=S.lkb,lkp:=S.lkp,defers:=S.defers,size:=S.size,below:=S.below,fr:=fun m=>(S.fr m).mono (bE.refl _ _) hE,bx:=S.bx,en:=fun t ht=>?_,mp:=S.mp,own:=S.own }⟩;by_cases e:t=k
 ·subst e;simp only[St.relax,aN]at ht ⊢;obtain⟨h1,h2,h3,h4⟩:=S.en t ht;refine⟨?_,by simpa using h2,h3,by simpa using h4⟩;rcases h1 with h1|⟨b,o,e1,e2,e3,e4⟩
  ·exact .inl (by simp[h1])
  ·exact .inr ⟨b,o,e1,e2,e3,sf e4⟩
 ·simp only[St.relax,aT _ _ e]at ht ⊢;exact S.en t ht
theorem bA.rekey (st:St) (n k d:Nat) {g len:Nat} (h:st.t n = .sl k g len) (hg:(st.e k).gen=g) (hg0:0<g) (hkd:k≠d):bA st (st.rekey n k d len):=fun W0 M0 N G w a S=>by
 have hv:=S.fr n;rw[h]at hv;obtain⟨hlen,hy⟩:=hv.2 hg hg0
 let G':Gh:={ G with E:=upd G.E d (G.E k),cap:=upd G.cap d (G.cap k),own:=fun b=>if G.own b=some (.e k)then some (.e d)else G.own b }
 have hM:∀ b,G'.M M0 b->G.M M0 b:=by
  rintro b (h|h)
  ·exact .inl h
  ·refine .inr fun e=>h ?_;simp[G',e]
 have hk:bE w (G.M M0) w (G'.M M0):=⟨ay _,fun b _ h=>⟨fun h'=>h (hM b h'),rfl⟩⟩;have ho:∀ b q,q ≠ .e k->G.own b=some q->G'.own b=some q:=by
  intro b q hq h;simp[G',h,hq]
 have hE:Evo st G (st.rekey n k d len) G':=by
  refine⟨fun _ _ h=>⟨h,fun e _=>⟨e,rfl⟩⟩,fun t g h=>?_,fun _ _ h=>⟨h,fun e _=>⟨e,rfl,rfl⟩⟩⟩;by_cases e:t=d
  ·subst e;simp only[St.rekey,aN];exact⟨aw,fun h' _=>by omega⟩
  ·simp only[St.rekey,G',aT _ _ e];by_cases e2:t=k
   ·subst e2;simp only[aN];exact⟨aw,fun h' _=>by omega⟩
   ·simp only[aT _ _ e2];exact⟨h,fun e' _=>⟨e',trivial,trivial,trivial,ay _⟩⟩
 refine⟨G',{ m0:=S.m0,lkb:=S.lkb,lkp:=S.lkp,defers:=S.defers.imp fun b h1 h2=>⟨h1,fun h=>h2 (hM b h)⟩,size:=S.size,below:=S.below,fr:=fun m=>?_,bx:=fun t ht=>?_,en:=fun t ht=>?_,mp:=fun t ht=>?_,own:=fun b hb=>?_ }⟩
 ·by_cases e:m=n
  ·subst e;simp only[St.rekey,aN,eH];exact⟨ay _,fun _ _=>⟨hlen,by rw[hy];simp[G',aN]⟩⟩
  ·have:=(S.fr m).mono hk hE;simp only[St.rekey,aT _ _ e]at this ⊢;exact this
 ·obtain⟨h1,ys,T,h2,h3⟩:=S.bx t ht;exact⟨ho _ _ au h1,ys,T,h2,h3.mono hk⟩
 ·by_cases e:t=d
  ·subst e;simp only[St.rekey,aN]at ht ⊢;obtain⟨h1,h2,h3,h4⟩:=S.en k aw;refine⟨?_,by simpa [G',aN]using h2,fun hm=>?_,fun h5 h6=>by simpa [G',aN]using h4 h5 h6⟩
   ·rcases h1 with h1|⟨b,o,e1,e2,e3,e4⟩
    ·exact .inl h1
    ·exact .inr ⟨b,o,by simp[G',aN,e1],e2,fun hm h=>e3 hm (hM b h),aS.mono hk rfl _ _ _ e4⟩
   ·obtain⟨b,ys,T,f1,f2,f3,f4⟩:=h3 hm;exact⟨b,ys,T,by simp[G',aN,f1],by simp[G',f2],f3,by simp[G',aN,f4]⟩
  ·simp only[St.rekey,aT _ _ e]at ht ⊢;by_cases e2:t=k
   ·subst e2;simp only[aN]at ht ⊢;exact⟨.inl rfl,Nat.zero_le _,fun h=>by simp at h,fun _ h=>by simp at h⟩
   ·simp only[aT _ _ e2]at ht ⊢;exact mN.mono (G:=G) (G':=G') hk (aT _ _ e) (aT _ _ e) (fun b h=>⟨ho b _ (by simpa using e2) h,rfl⟩) (S.en t ht)
 ·exact oN.mono (G:=G) (G':=G') hk (fun _ _=>rfl) (fun b k _ h=>⟨ho b _ au h,rfl⟩) (S.mp t ht)
 ·refine S.own b fun e=>hb ?_;simp[G',e]
def iy (args:List IV):St :=
 {t:=fun n=>match args[n]? with|some x => .i x|none => .any
  b:=fun _=>⟨0,[]⟩,e:=fun _=>⟨0,0,[],false,false⟩,p:=fun _=>{ gen:=0,kv:=[] } }
def St.fin (st:St):AV->Option IV
 | .sl t g len=>bif Nat.blt 0 g && Nat.beq (st.e t).gen g then some (.c (.lst ((st.e t).rs.take len)))else none
 | v=>st.toIV v
def St.res1 (P:Program) (st:St):ResultVar->Option IV
 | .tmp t=>st.fin (st.t t)
 | .cell p T=>match tinfo P T,st.t p with
  | some ti,.bp t g off=>bif Nat.blt 0 g && Nat.beq (st.b t).gen g then ldv ti ((st.b t).cs.drop off)else none
  | _,_=>none
theorem Mh (S:Sim W0 M0 N st G w a) {M1:Nat->Prop} (hM:∀ x,M1 x->G.M M0 x) (hR:∀ x t,G.own x=some (.e t)->¬ M1 x) {v:AV} {y:Value} {x:IV} (h:eH w (G.M M0) st G v y) (hx:st.fin v=some x):jc w M1 x y:=by
 have hk:bE w (G.M M0) w M1:=⟨ay _,fun b _ h=>⟨fun h'=>h (hM b h'),rfl⟩⟩;by_cases hs:∃ t g len,v = .sl t g len
 ·obtain⟨t,g,len,rfl⟩:=hs;simp only[St.fin]at hx;cases hc:(Nat.blt 0 g && Nat.beq (st.e t).gen g)with
  | false=>simp[hc]at hx
  | true =>
   simp only[hc,cond_true,Option.some.injEq]at hx;subst hx;simp only[Bool.and_eq_true,Nat.blt_eq]at hc;have hg:(st.e t).gen=g:=Nat.eq_of_beq_eq_true hc.2;obtain⟨hlen,rfl⟩:=h.2 hg hc.1;obtain⟨h1,h2,h3,h4⟩:=S.en t aw;show cw _ _ _ _;simp only[cw];refine⟨_,_,_,rfl,ar,aw,?_⟩;rcases h1 with h1|⟨b,o,e1,e2,e3,e4⟩
   ·left;rw[h1];simp
   ·refine .inr ⟨b,o,(st.e t).sz,e1,e2,fun hb=>?_,(aS.mono hk rfl _ _ _ e4).take len⟩;by_cases hm:(st.e t).m=true
    ·obtain⟨b',ys,T,f1,f2,f3,f4⟩:=h3 hm;obtain rfl:b=b':=by rw[e1]at f1;simp at f1;exact f1.1
     exact hR b t f2 hb
    ·exact e3 (by simpa using hm) (hM b hb)
 ·have:st.fin v=st.toIV v:=by
   cases v<;>first|rfl|exact absurd ⟨_,_,_,rfl⟩ hs
  rw[this]at hx;exact jc.mono hk (lh S h hx)
variable {P:Program}
def rd (tmps:Array Value):ResultVar->Sem Value
 | .tmp t=>pure (tmps.getD t undef)
 | .cell p t=>do loadVar t (← asAddr (tmps.getD p undef))
theorem BV (fn:Func) (tmps:Array Value):results fn tmps=(do let vs ← fn.results.mapM (rd tmps);pure (if h:vs.size=1 then vs[0]else .tuple vs)):=by
 have:rd tmps=(fun
  | .tmp t=>pure (tmps.getD t undef)
  | .cell a t=>do loadVar t (← asAddr (tmps.getD a undef))):=by funext r;cases r<;>rfl
 unfold results;rw[this];rfl
theorem H5 (S:Sim W0 M0 N st G w a) {M1:Nat->Prop} (hM:∀ x,M1 x->G.M M0 x) (hR:∀ x t,G.own x=some (.e t)->¬ M1 x) {r:ResultVar} {x:IV} (h:st.res1 P r=some x) :
  ∃ y,(rd a.tmps r).run P w = .ok y w/\jc w M1 x y:=by
 cases r with
 | tmp t=>exact⟨_,by simp[rd],Mh S hM hR (S.fr t) h⟩
 | cell p T =>
  have hk:bE w (G.M M0) w M1:=⟨ay _,fun b _ h=>⟨fun h'=>h (hM b h'),rfl⟩⟩;simp only[St.res1]at h;split at h
  ·rename_i ti t g off h1 h2;cases hc:(Nat.blt 0 g && Nat.beq (st.b t).gen g)with
   | false=>simp[hc]at h
   | true =>
    simp only[hc,cond_true]at h;simp only[Bool.and_eq_true,Nat.blt_eq]at hc;have hv:=S.fr p;rw[h2]at hv;obtain⟨b,off',ys,e1,e2,e3⟩:=sG (D:=none) S hv ⟨Nat.eq_of_beq_eq_true hc.2,hc.1,trivial,rfl⟩;obtain⟨y,hy,hr⟩:=sj h1 h e2 e3;refine⟨y,?_,jc.mono hk hr⟩;simp only[rd,e1];simp[asAddr,hy]
  ·simp at h
theorem pR (S:Sim W0 M0 N st G w a) {M1:Nat->Prop} (hM:∀ x,M1 x->G.M M0 x) (hR:∀ x t,G.own x=some (.e t)->¬ M1 x) {fn:Func} {res:List IV} (h:eF (st.res1 P) fn.results.toList=some res) :
  ∃ y,(results fn a.tmps).run P w = .ok y w/\yw w M1 res y:=by
 obtain⟨l,hl⟩:∃ l,fn.results=List.toArray l:=⟨fn.results.toList,rfl⟩;rw[hl]at h;have key:∀(l:List ResultVar) (res:List IV),eF (st.res1 P) l=some res ->
   ∃ ys,(l.mapM (rd a.tmps)).run P w = .ok ys w/\cV w M1 res ys:=by
  intro l
  induction l with
  | nil=>intro res h;cases h;exact⟨[],au,trivial⟩
  | cons r l ih =>
   intro res h;simp only[eF]at h;split at h
   ·rename_i x xs h1 h2;cases h;obtain⟨y,hy,hr⟩:=H5 S hM hR h1;obtain⟨ys,hys,hrs⟩:=ih xs h2;refine⟨y::ys,?_,hr,hrs⟩;rw[List.mapM_cons,Sem.run_bind,hy];simp only[Result.andThen_ok];rw[Sem.run_bind,hys];simp
   ·simp at h
 obtain⟨ys,hys,hrs⟩:=key l res h;have hlen:=hrs.length;refine⟨if h:ys.toArray.size=1 then ys.toArray[0]else .tuple ys.toArray,?_,?_⟩
 ·rw[BV,hl,List.mapM_toArray,Sem.run_bind,Sem.run_map,hys];simp
 ·cases res with
  | nil =>
   cases ys with
   | nil=>exact⟨#[],au,trivial⟩
   | cons _ _=>simp at hlen
  | cons x xs =>
   cases xs with
   | nil =>
    cases ys with
    | nil=>simp at hlen
    | cons y ys =>
     cases ys with
     | nil=>exact hrs.1
     | cons _ _=>simp at hlen
   | cons x2 xs =>
    have:¬ ys.toArray.size=1:=by simp;simp at hlen;omega
    rw[dif_neg this];exact⟨ys.toArray,rfl,hrs⟩
theorem se (S:Sim W0 M0 N st G w a) {fn:Func} {res:List IV} (h:eF (st.res1 P) fn.results.toList=some res) :
  ∃ y,(results fn a.tmps).run P w = .ok y w/\yw w M0 res y:=pR S (fun _ h => .inl h) (fun x t e=>S.not_m0 (S.own x (by simp[e])).1) h
end
section
variable {P:Program}
def g0:Gh:={ A:=fun _=>0,E:=fun _=>none,cap:=fun _=>0,Q:=fun _=>0,own:=fun _=>none }
theorem qi {args:List IV} {vs:List Value} {w:World} {M:Nat->Prop} {n:Nat} (hm:∀ b,M b->b<w.heap.size) (hr:cV w M args vs) (hn:args.length<=n) :
  Sim (.of w) M n (iy args) g0 w { tmps:=vs.toArray++Array.replicate (n-vs.toArray.size) undef,defers:=[] }:=by
 have hk:bE w M w (g0.M M):=⟨ay _,fun b _ h=>⟨fun h'=>h'.elim h (fun h''=>h'' rfl),rfl⟩⟩;have hlen:=hr.length;refine{ m0:=fun b h=>⟨hm b h,rfl⟩,lkb:=(fun _ _ h=>nomatch h),lkp:=(fun _ _ h=>nomatch h),defers := .nil rfl,size:=?_,below := .refl _ _,fr:=fun k=>?_,bx:=fun t h=>?_,en:=fun t h=>?_,mp:=fun t h=>?_,own:=fun b h=>?_ }
 ·simp;omega
 ·simp only[iy];cases h:args[k]? with
  | none=>trivial
  | some x =>
   obtain⟨y,hy,hx⟩:=hr.get h;have hk':k<vs.length:=(List.getElem?_eq_some_iff.1 hy).1;have:(vs.toArray++Array.replicate (n-vs.toArray.size) undef).getD k undef=y:=by
    rw[Array.getD_eq_getD_getElem?,Array.getElem?_append_left (by simpa using hk')];simp[hy]
   show eH _ _ _ _ (.i x) _;rw[this];exact hx.mono hk
 ·simp[iy]at h
 ·simp[iy]at h
 ·simp[iy]at h
 ·simp[g0]at h
def Off (w w':World):Prop:=w.heap.size<=w'.heap.size/\∀ a,w'.cell? a=w.cell? a
mutual
theorem cw.off {w w':World} {M:Nat->Prop} (h:Off w w'):∀(c:C) (y:Value),cw w M c y->cw w' M c y
 | .v x,y=>fun hr=>by simp only[cw]at hr ⊢;exact hr
 | .lst rs,y=>fun hr=>by
  simp only[cw]at hr ⊢;obtain⟨a,len,cap,hy,hl,hc,hrs⟩:=hr;refine⟨a,len,cap,hy,hl,hc,?_⟩;rcases hrs with hrs|⟨b,off,sz,ha,hb,hm,hrows⟩
  ·exact .inl hrs
  ·exact .inr ⟨b,off,sz,ha,Nat.lt_of_lt_of_le hb h.1,hm,aS.off h rs b off sz hrows⟩
theorem aS.off {w w':World} {M:Nat->Prop} (h:Off w w'):∀(rs:List (List C)) (b off sz:Nat),aS w M rs b off sz->aS w' M rs b off sz
 | [],_,_,_=>fun _=>by simp only[aS]
 | r::rs,b,off,sz=>fun hr=>by
  simp only[aS]at hr ⊢;exact⟨hr.1,br.off h r b off hr.2.1,aS.off h rs b (off+sz) sz hr.2.2⟩
theorem br.off {w w':World} {M:Nat->Prop} (h:Off w w'):∀(cs:List C) (b off:Nat),br w M cs b off->br w' M cs b off
 | [],_,_=>fun _=>by simp only[br]
 | c::cs,b,off=>fun hr=>by
  simp only[br]at hr ⊢;obtain⟨⟨y,hy,hc⟩,ht⟩:=hr;exact⟨⟨y,(h.2 _).trans hy,cw.off h c y hc⟩,br.off h cs b (off+1) ht⟩
end
theorem aY.off {w w':World} {M:Nat->Prop} (h:Off w w'):∀{cs:List C} {ys:List Value},aY w M cs ys->aY w' M cs ys
 | [],[],_=>trivial
 | _::_,_::_,hr=>⟨cw.off h _ _ hr.1,aY.off h hr.2⟩
 | [],_::_,hr=>hr.elim
 | _::_,[],hr=>hr.elim
theorem jc.off {w w':World} {M:Nat->Prop} (h:Off w w') {x:IV} {y:Value} (hr:jc w M x y):jc w' M x y:=by
 cases x with
 | c c=>exact cw.off h c y hr
 | g cs=>obtain⟨ys,e,hc⟩:=hr;exact⟨ys,e,aY.off h hc⟩
theorem cV.off {w w':World} {M:Nat->Prop} (h:Off w w'):∀{xs:List IV} {ys:List Value},cV w M xs ys->cV w' M xs ys
 | [],[],_=>trivial
 | _::_,_::_,hr=>⟨hr.1.off h,cV.off h hr.2⟩
 | [],_::_,hr=>hr.elim
 | _::_,[],hr=>hr.elim
theorem bI.off {w w':World} {M:Nat->Prop} (h:Off w w'):∀{xs:List (List C×List C)} {ys:List MapEntry},bI w M xs ys->bI w' M xs ys
 | [],[],_=>trivial
 | _::_,_::_,hr=>by
  obtain⟨⟨k,v,e1,e2,h1,h2⟩,ht⟩:=hr;exact⟨⟨k,v,e1,e2,aY.off h h1,aY.off h h2⟩,bI.off h ht⟩
 | [],_::_,hr=>hr.elim
 | _::_,[],hr=>hr.elim
theorem oN.off {w w':World} {M:Nat->Prop} {G:Gh} {t:Nat} {n:MP} (h:Off w w') (ho:∀ k,G.own (G.Q k)=some (.p k)->w'.heap[G.Q k]?=w.heap[G.Q k]?) (hr:oN w M G t n):oN w' M G t n:=by
 obtain⟨h1,h2⟩:=hr;refine⟨h1,?_⟩;cases hof:n.of with
 | none =>
  rw[hof]at h2;obtain⟨es,c,e1,e2,e3⟩:=h2;exact⟨es,c,(ho t h1).trans e1,e2,bI.off h e3⟩
 | some k =>
  rw[hof]at h2;obtain⟨h3,es,c,seen,e1,e2,e3,e4,e5⟩:=h2;exact⟨h3,es,c,seen,(ho k h3).trans e1,(ho t h1).trans e2,e3,bI.off h e4,fun x hx=>by
   obtain⟨e,he,s',hs,hk⟩:=e5 x hx;exact⟨e,he,s',hs,bI.off h hk⟩⟩
theorem pc {w:World} {b:Nat} {o o':Obj} (h:w.heap[b]?=some o) (ho:∀ c t f,o ≠ .cells c t f) (ho':∀ c t f,o' ≠ .cells c t f):Off w (w.putObj b o'):=by
 have hb:b<w.heap.size:=(Array.getElem?_eq_some_iff.1 h).1;refine⟨au,fun a=>?_⟩;unfold World.cell?;by_cases e:a.block=b
 ·rw[e,World.putObj_heap_same hb,h];cases o<;>cases o'<;>first|rfl|(exact absurd rfl (ho _ _ _))|(exact absurd rfl (ho' _ _ _))
 ·rw[World.putObj_heap_other e]
theorem eH.off {w w':World} {M:Nat->Prop} (h:Off w w') {st:St} {G:Gh} {v:AV} {y:Value} (hr:eH w M st G v y):eH w' M st G v y:=by
 cases v with
 | i x=>exact jc.off h hr
 | fl rs =>
  obtain⟨a,len,hy,hl,hrs⟩:=hr;refine⟨a,len,hy,hl,?_⟩;rcases hrs with hrs|⟨b,off,sz,ha,hb,hm,hrows⟩
  ·exact .inl hrs
  ·exact .inr ⟨b,off,sz,ha,Nat.lt_of_lt_of_le hb h.1,hm,aS.off h rs b off sz hrows⟩
 | ip cs =>
  obtain⟨b,off,hy,hb,hm,hc⟩:=hr;exact⟨b,off,hy,Nat.lt_of_lt_of_le hb h.1,hm,br.off h cs b off hc⟩
 | tup xs=>obtain⟨ys,e,hc⟩:=hr;exact⟨ys,e,cV.off h hc⟩
 | _=>exact hr
theorem Sim.putObj {W0:cW} {M0:Nat->Prop} {N:Nat} {st:St} {G:Gh} {w:World} {a:Act} {b:Nat} {o o':Obj} (S:Sim W0 M0 N st G w a) (h:w.heap[b]?=some o) (ho:∀ c t f,o ≠ .cells c t f) (ho':∀ c t f,o' ≠ .cells c t f)
  (hm:¬ G.M M0 b) (hl:W0.Ow b) {ds:List Deferred} {df:List Nat} (hds:Dq ⟨W0.w,W0.x,df⟩ (G.M M0) (w.putObj b o') ds):Sim ⟨W0.w,W0.x,df⟩ M0 N st G (w.putObj b o') { a with defers:=ds }:=by
 have hf:=pc h ho ho';have hne:∀ b':Nat,G.own b'≠none->(w.putObj b o').heap[b']?=w.heap[b']?:=fun b' h'=>World.putObj_heap_other fun e=>hm (.inr (e ▸ h'));have hbl:=S.below;refine{ m0:=S.m0,lkb:=S.lkb,lkp:=S.lkp,defers:=hds,size:=S.size,below:=⟨hbl.os,hbl.tape,hbl.output,by simpa using hbl.size,hbl.drawn,fun k hk hx=>(World.putObj_heap_other (fun e:k=b=>hl.elim (fun h=>by have hk':k<W0.w.heap.size:=hk;omega) (fun h=>h (by rw[<-e];exact hx)))).trans (hbl.block k hk hx)⟩,fr:=fun n=>(S.fr n).off hf,bx:=fun t ht=>?_,en:=fun t ht=>?_,mp:=fun t ht=>?_,own:=fun b' hb'=>?_ }
 ·obtain⟨h1,ys,T,h2,h3⟩:=S.bx t ht;exact⟨h1,ys,T,(hne _ (by simp[h1])).trans h2,h3.off hf⟩
 ·obtain⟨h1,h2,h3,h4⟩:=S.en t ht;refine⟨?_,h2,fun hm'=>?_,h4⟩
  ·rcases h1 with h1|⟨b',o1,e1,e2,e3,e4⟩
   ·exact .inl h1
   ·exact .inr ⟨b',o1,e1,by simpa using e2,e3,aS.off hf _ _ _ _ e4⟩
  ·obtain⟨b',ys,T,f1,f2,f3,f4⟩:=h3 hm';exact⟨b',ys,T,f1,f2,(hne _ (by simp[f2])).trans f3,f4⟩
 ·exact(S.mp t ht).off hf (fun k h=>hne _ (by simp[h]))
 ·have:=S.own b' hb';exact⟨this.1,by simpa using this.2⟩
theorem jZ {W0:cW} {M0:Nat->Prop} {N:Nat} {st:St} {G:Gh} {w:World} {a:Act} {fn:Func} {R:Ending->World->Prop} (S:Sim W0 M0 N st G w a)
  (h:∀ w':World,Sim ⟨W0.w,W0.x,[]⟩ M0 N st G w' { a with defers:=[] }->∃ v,(results fn a.tmps).run P w' = .ok v w'/\R (.returned v) w'):LeavesInM Fence.wide 0 P fn a.tmps R a.defers .returning w:=by
 obtain⟨W,X,bs⟩:=W0;have key:∀(bs:List Nat) (w:World) (a:Act),Sim ⟨W,X,bs⟩ M0 N st G w a->(∀ w':World,Sim ⟨W,X,[]⟩ M0 N st G w' { a with defers:=[] }->∃ v,(results fn a.tmps).run P w' = .ok v w'/\R (.returned v) w') ->
   LeavesInM Fence.wide 0 P fn a.tmps R a.defers .returning w:=by
  intro bs
  induction bs with
  | nil =>
   intro w a S h;have e:a.defers=[]:=S.defers.1;have e':a={ a with defers:=[] }:=by cases a;simp only at e;rw[e]
   rw[e];refine h w ?_;rw[<-e'];exact S
  | cons b bs ih =>
   intro w a S h;obtain⟨h1,h2,h3⟩:=S.defers;obtain⟨k1,k2,k3⟩:=h3 b au;have hnd:=List.nodup_cons.1 h2;rw[h1];refine⟨au,.inl ⟨b,_,rfl,run_takeDeferred k1,?_⟩⟩;have S':Sim ⟨W,X,bs⟩ M0 N st G (w.putObj b (.deferred none)) { a with defers:=bs.map mark }:=S.putObj (df:=bs) k1 au au k2 (.inl k3)
    ⟨rfl,hnd.2,fun b' hb'=>by
     obtain⟨q1,q2,q3⟩:=h3 b' (by simp[hb']);exact⟨(World.putObj_heap_other (fun e:b'=b=>hnd.1 (by rw[<-e];exact hb'))).trans q1,q2,q3⟩⟩
   exact ih _ _ S' h
 exact key bs w a S h
def Rc (P:Program) (fn:Func) (res:List IV):bg->St->Prop:=fun e st=>(e = .normal\/e = .ret)/\eF (st.res1 P) fn.results.toList=some res
theorem Be {f : FuncId} {fn : Func} {c : Code} {args res : List IV} (hf : P.funcs[f]? = some fn) (hb : fn.body = some c) (hn : (fn.name == "runtime.NumGoroutine") = false)
  (hlen:args.length<=fn.ntmps) (hasg:(asg c).all (fun d=>Nat.blt d fn.ntmps)=true) (h:WP P c (Rc P fn res) (iy args)):Fn P f args res:=by
 refine⟨⟨fn,c,hf,hb,hn⟩,fun w M vs hm hr=>?_⟩;refine callsIn_wide.1 (callsIn_of_wp_marks (F:=Fence.wide) (n:=0) hf hb trivial (wpIn_mono (h none (.of w) M fn.ntmps g0 w _ (qi hm hr hlen) fun d hd=>?_) ?_))
 ·have:=(List.all_eq_true.1 hasg) d hd;simpa using this
 ·rintro e a' w' ⟨x,st',G',h1,⟨h2,h3⟩,S⟩;have hend:LeavesInM Fence.wide 0 P fn a'.tmps (fun e w'=>∃ y,e = .returned y/\yw w' M res y/\bq w.heap.size w w') a'.defers .returning w':=jZ S fun w' S=>by
   obtain⟨y,hy,hr'⟩:=se S h3;exact⟨y,hy,y,rfl,hr',S.below.below⟩
  cases e with
  | normal=>exact hend
  | ret=>exact hend
  | exit id=>simp[bz]at h1;subst h1;simp at h2
  | goto l=>simp[bz]at h1
  | panic l=>simp[bz]at h1
  | outgrown=>simp[bz]at h1
def endM (fn:Func) (sz:Nat) (rs:List (List C)):bg->St->Prop:=fun e st=>(e = .normal\/e = .ret)/\∃ t,fn.results = #[.tmp t] /\
 ((rs=[]/\st.t t = .fl [])\/∃ k g,st.t t = .sl k g rs.length/\0<g/\st.e k=⟨g,sz,rs,!rs.isEmpty,true⟩)
theorem jO {f : FuncId} {fn : Func} {c : Code} {args : List IV} {sz : Nat} {rs : List (List C)} (hf : P.funcs[f]? = some fn) (hb : fn.body = some c) (hn : (fn.name == "runtime.NumGoroutine") = false)
  (hlen:args.length<=fn.ntmps) (hasg:(asg c).all (fun d=>Nat.blt d fn.ntmps)=true) (h:WP P c (endM fn sz rs) (iy args)):FnM P f args sz rs:=by
 refine⟨⟨fn,c,hf,hb,hn⟩,fun w M vs hm hr=>?_⟩;refine callsIn_wide.1 (callsIn_of_wp_marks (F:=Fence.wide) (n:=0) hf hb trivial (wpIn_mono (h none (.of w) M fn.ntmps g0 w _ (qi hm hr hlen) fun d hd=>?_) ?_))
 ·have:=(List.all_eq_true.1 hasg) d hd;simpa using this
 ·rintro e a' w' ⟨x,st',G',h1,⟨h2,t,ht,h3⟩,S⟩;have hend:LeavesInM Fence.wide 0 P fn a'.tmps (fun e w'=>∃ a cap,e = .returned (.slice a rs.length cap)/\bq w.heap.size w w'/\rs.length<=cap /\
   ((rs=[]/\cap=0)\/rs≠[]/\∃ b ys T,a=some ⟨b,0,none⟩/\w.heap.size<=b/\w'.heap[b]?=some (.cells ys T (0,0))/\ys.size=cap*sz /\
    aS w' (fun x=>M x\/x=b) rs b 0 sz)) a'.defers .returning w':=jZ S fun w' S=>by
   have hrun:(results fn a'.tmps).run P w' = .ok (a'.tmps.getD t undef) w':=by simp[results,ht]
   have hv:=S.fr t;refine⟨_,hrun,?_⟩;dsimp only at hv;rcases h3 with⟨hnil,h3⟩|⟨k,g,h3,hg,he⟩
   ·rw[h3]at hv;obtain⟨p,len,hy,hl,_⟩:=hv;subst hnil;exact⟨p,0,by rw[hy,hl];rfl,S.below.below,ay _,.inl ⟨rfl,rfl⟩⟩
   ·rw[h3]at hv;obtain⟨hl,hy⟩:=hv.2 (by rw[he]) hg;obtain⟨f1,f2,f3,f4⟩:=S.en k (by rw[he];exact hg);rw[he]at f1 f2 f3 f4;dsimp only at f1 f2 f3 f4;refine⟨G'.E k,G'.cap k,by rw[hy],S.below.below,f2,?_⟩;cases rs with
    | nil=>exact .inl ⟨rfl,f4 rfl rfl⟩
    | cons r l =>
     obtain⟨b,ys,T,e1,e2,e3,e4⟩:=f3 rfl;refine .inr ⟨au,b,ys,T,e1,(S.own b (by simp[e2])).1.resolve_right (fun h=>h rfl),e3,e4,?_⟩;rcases f1 with f1|⟨b',o,g1,g2,g3,g4⟩
     ·simp at f1
     ·obtain⟨rfl,rfl⟩:b=b'/\0=o:=by rw[e1]at g1;simp at g1;exact g1
      have hb:b<w'.heap.size:=(S.own b (by simp[e2])).2;refine aS.mono (w:=w') (M:=G'.M M) ⟨ay _,fun x _ hx=>⟨?_,rfl⟩⟩ rfl _ _ _ g4;rintro (h|h)
      ·exact hx (.inl h)
      ·subst h;exact hx (.inr (by simp[e2]))
  cases e with
  | normal=>exact hend
  | ret=>exact hend
  | exit id=>simp[bz]at h1;subst h1;simp at h2
  | goto l=>simp[bz]at h1
  | panic l=>simp[bz]at h1
  | outgrown=>simp[bz]at h1
end
end Go.AM
