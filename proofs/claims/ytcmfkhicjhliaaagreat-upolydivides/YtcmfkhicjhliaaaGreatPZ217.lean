/- Lemmas, part 18 of 24: The abstract machine, part 35: made slices of no element; The abstract machine, part 36: regions that draw their order, by a statement on what is done; Package slices: Repeat of one element; Polynomials over a field: lists of coefficients, derivatives, division; Monic greatest common divisors; Euclid's pairs; Package upoly: polynomials over the field of rational functions; Package upoly: products; Package upoly: division. No condition. -/
import Derived.Test.YtcmfkhicjhliaaaGreatPZ216
set_option maxRecDepth 65536
set_option linter.unusedSimpArgs false
set_option linter.unusedVariables false
set_option linter.unusedSectionVars false
namespace Go.AM
section
variable {P:Program} {kind:FuncId->CK} {st:St} {Q:aK->St->Prop} {K:St->Prop}
theorem WP.semAt (kind:FuncId->CK) {id:Nat} {ops:List Oper} (n:Nat) {o:Oper} (hn:ops[n]?=some o) (hg:o.guard=none) (hnd:∀ c,o.op ≠ .defer c)
  (h:WsF P kind ops (ops.take n) (fun s=>pr P o s (WsF P kind ops (ops.drop (n+1)) (Q .normal))) st):WP P (.region id ops.toArray false) Q st:=by
 intro ρ W0 M0 N G w a S hd;refine wpIn_region ?_;have hnl:n<ops.length:=(List.getElem?_eq_some_iff.1 hn).1;have hN:=dv hd;have hsz:List.range ops.toArray.size=List.range' 0 (ops.take n).length++n::List.range' (n+1) (ops.drop (n+1)).length:=by
  rw[List.range_eq_range',List.length_take,List.length_drop,List.size_toArray,Nat.min_eq_left (by omega)];have e1:ops.length=n+(ops.length-n):=by omega
  have e2:ops.length-n=(ops.length-(n+1))+1:=by omega
  conv=>lhs;rw[e1,<-List.range'_append_1,Nat.zero_add,e2,List.range'_succ]
 rw[hsz];refine ln hN _ (ops.take n) 0 (fun i hi=>?_) S (cE (ops:=ops.toArray) h) ?_
 ·rw[List.length_take]at hi;rw[List.getElem?_take,if_pos (by omega)];simp
 rintro a1 u1 ⟨s1,G1,hs,S1⟩;have hno:ops.toArray[n]?=some o:=by simpa using hn
 rw[wpOpsIn_cons];simp only[wpOpIn,hno];have hgd:gd ops.toArray s1 o=some true:=by simp[gd,hg]
 rw[gc S1 hgd];simp only[if_true];refine bP hnd (Oper.wp_mono ?_ (hs W0 M0 N G1 u1 a1 _ S1 (hN n o hno)));rintro a' w' ⟨st',G',hK,hS⟩;refine eO hN (ops.drop (n+1)) (n+1) (fun i=>by simp) hS (cE (ops:=ops.toArray) hK) ?_;rintro a2 u2 ⟨s2,G2,h2,S2⟩;exact⟨.normal,s2,G2,rfl,h2,S2⟩
theorem yr {o:Oper} {T:TypeId} {x y:Operand} {te:TI} {z:List C} (ho:o.op = .makeSlice T x y) (hte:eB P T=some te) (hz:te.zero=some z) (hx:kp (st.ev x) 0) (hy:kp (st.ev y) 0) (hK:K (st.put o.dst (.fl []))):pr P o st K:=by
 intro W0 M0 N G w a Q S hd;obtain⟨e,ie,de,hT,hie,_,rfl⟩:=fR hte;dsimp only at hz;obtain⟨zv,hzv,rfl,hzr⟩:=nO hz;obtain⟨k1,hx⟩:=jP (S.ev x) hx;obtain⟨k2,hy⟩:=jP (S.ev y) hy;have hrun:=run_make (P:=P) w T e ie zv hT hie hzv k1 k2 0 0 (by omega) (by omega) (by omega) (by omega);refine a8 (y := .slice (some ⟨w.heap.size,0,none⟩) 0 0) (w':=w.alloc (.cells (madeCells zv.cells (0*ie.size)) e)) ?_ ?_
 ·replace hrun:(Instr.makeSlice T (.int k1 0) (.int k2 0)).run P w = .ok (.slice (some ⟨w.heap.size,0,none⟩) 0 0) (w.alloc (.cells (madeCells zv.cells (0*ie.size)) e)):=hrun
  simp[execOp,ho,hx,hy,hrun]
 ·exact⟨_,G,hK,S.put hd ((aR.refl _ _).alloc (ae _) _) fun _=>⟨_,0,rfl,rfl,.inl rfl⟩⟩
theorem y4 {dst:Option Tmp} {x y:Operand} {T U:TypeId} {xs:List (List C)} {te:TI} (hx:st.ev x = .fl []) (hy:st.rows (st.ev y)=some xs) (hte:eB P T=some te)
  (hK:K (St.put st dst (sc (.int .i64 0)))):gw P kind none dst K st (.call ⟨.builtin .copy,#[x,y],#[T,U]⟩) ⟨⟩:=by
 refine⟨rfl,fun o ho hdst=>⟨by simp[dP,ho],?_⟩⟩;intro W0 M0 N G w a Q S hd;obtain⟨e,ie,de,hT,hie,_,rfl⟩:=fR hte;have hv:=S.ev x;rw[hx]at hv;obtain⟨q,len,hxv,hl,-⟩:=hv;simp only[List.length_nil]at hl;subst hl;obtain⟨p,cap,hyv,hcap,hyr⟩:=me S (S.ev y) hy;have hexec:(execOp a.eval o).run P w = .ok (.value (goInt (Nat.min xs.length 0))) w:=by
  have e0:Nat.min xs.length 0=0:=Nat.min_zero _;rw[e0];have hf:(Builtin.firstCells ie.size 0 (.slice p xs.length cap)).run P w = .ok #[] w:=by
   cases p<;>simp[Builtin.firstCells,loadCells,loadCellsFrom]
  have hs:∀ ad:Addr,(storeCells ad []).run P w = .ok () w:=fun ad=>rfl;cases q<;>simp[execOp,ho,resolve,invoke,builtin,hxv,hyv,Builtin.copy_,run_underlying hT,Builtin.lenOf,sizeOf,typeInfo,hie,hf,hs]
 refine a8 hexec ?_;refine⟨_,G,?_,S.put (v:=sc (.int .i64 0)) hd (aR.refl _ _) fun _=>?_⟩
 ·rw[hdst];exact hK
 ·have e0:Nat.min xs.length 0=0:=Nat.min_zero _;rw[e0];exact sg rfl
end
section
variable {P:Program} {kind:FuncId->CK} {st:St} {Q:aK->St->Prop}
theorem WP.any (kind:FuncId->CK) (hm:P.follows .mixedOrders=true) {id:Nat} {ops:List Oper} (J:(Nat->Bool)->St->Prop) (he:(List.range ops.length).all (fun i=>((ops[i]?).map fun o=>o.after.all fun e => !Region.binds .any e || decide (e.on<i)).getD true)=true)
  (h0:J (fun _=>false) st)
  (step:∀(F:Nat->Bool) (s:St) (i:Nat) (o:Oper),J F s->ops[i]?=some o->F i=false->dw ops F i->(∀ j,F j=true->dw ops F j) ->
   ∃ t,gd ops.toArray s o=some t/\(t=true->AOp P kind none o (fun s'=>J (fun j=>F j || j == i) s') s)/\(t=false->J (fun j=>F j || j == i) (s.put o.dst (.tup []))))
  (fin:∀ F s,J F s->(∀ j,j<ops.length->F j=true)->Q .normal s):WP P (.region id ops.toArray true) Q st:=by
 intro ρ W0 M0 N G w a S hd;have hN:=dv hd;refine wpIn_region_any hm ?_;have d1:∀ i o,ops[i]?=some o->∀ e∈o.after,Region.binds .any e=true->e.on<i:=by
  intro i o ho e hem hb;have hi:i<ops.length:=(List.getElem?_eq_some_iff.1 ho).1;have:=(List.all_eq_true.1 he) i (List.mem_range.2 hi);simp only[ho,Option.map_some,Option.getD_some,Array.all_eq_true_iff_forall_mem]at this;have:=this e hem;simp[hb]at this;exact this
 have hsize:ops.toArray.size=ops.length:=by simp
 have hready:∀(listed:Array Bool),listed.size=ops.toArray.size->Region.ready .any ops.toArray listed=[]->∀ j,j<ops.toArray.size->listed.getD j false=true:=by
  intro listed hsz hr j
  induction j using Nat.strongRecOn with
  | _ j ih =>
   intro hj;cases hF:listed.getD j false with
   | true=>rfl
   | false =>
    exfalso;have:j∈Region.ready .any ops.toArray listed:=by
     refine mem_ready.2 ⟨?_,ops.toArray[j],by simp,?_⟩
     ·rw[Array.getD_eq_getD_getElem?]at hF ⊢;have h1:j<listed.size:=by omega
      simp only[Array.getElem?_eq_getElem h1,Option.getD_some]at hF ⊢;exact hF
     ·intro e hem hb;have hlt:=d1 j ops[j] (by simp) e (by simpa using hem) hb;exact ih e.on hlt (by omega)
    rw[hr]at this;simp at this
 have main:∀(fuel:Nat) (listed:Array Bool) (a:Act) (w:World),listed.size=ops.toArray.size->(List.range ops.toArray.size).countP (fun j => !listed.getD j false)<=fuel ->
   (∀ j,listed.getD j false=true->dw ops (fun j=>listed.getD j false) j)->(∃ s G,J (fun j=>listed.getD j false) s/\Sim W0 M0 N s G w a) ->
   wpAnyIn (fen ρ) 0 P .any ops.toArray (fun e a' w'=>∃ x st' G',aX e=some x/\Q x st'/\Sim W0 M0 N st' G' w' a') fuel listed a w:=by
  intro fuel
  induction fuel with
  | zero =>
   intro listed a w hsz hc hcl ⟨s,G,hJ,S⟩;have hall:∀ j,j<ops.toArray.size->listed.getD j false=true:=by
    intro j hj;have h0:(List.range ops.toArray.size).countP (fun j => !listed.getD j false)=0:=by omega
    have:=(List.countP_eq_zero.1 h0) j (List.mem_range.2 hj);simpa using this
   refine⟨?_,⟨.normal,s,G,rfl,fin _ s hJ (fun j hj=>hall j (by omega)),S⟩⟩;cases hr:Region.ready .any ops.toArray listed with
   | nil=>rfl
   | cons j l =>
    have hj:j∈Region.ready .any ops.toArray listed:=by rw[hr];simp
    obtain⟨h1,o,ho,_⟩:=mem_ready.1 hj;have hjs:j<ops.toArray.size:=(Array.getElem?_eq_some_iff.1 ho).1;have h2:=hall j hjs;rw[Array.getD_eq_getD_getElem?]at h1 h2;have h3:j<listed.size:=by omega
    simp only[Array.getElem?_eq_getElem h3,Option.getD_some]at h1 h2;rw[h1]at h2;simp at h2
  | succ fuel ih =>
   intro listed a w hsz hc hcl ⟨s,G,hJ,S⟩;refine⟨fun hr=>⟨.normal,s,G,rfl,fin _ s hJ (fun j hj=>hready listed hsz hr j (by omega)),S⟩,?_⟩;intro i hi;obtain⟨h1,o,ho,hee⟩:=mem_ready.1 hi;have hlt:i<ops.toArray.size:=(Array.getElem?_eq_some_iff.1 ho).1;have h3:i<listed.size:=by omega
   have hFi:listed.getD i false=false:=by
    rw[Array.getD_eq_getD_getElem?]at h1 ⊢;simp only[Array.getElem?_eq_getElem h3,Option.getD_some]at h1 ⊢;exact h1
   have hei:dw ops (fun j=>listed.getD j false) i:=by
    intro o' ho' e he' hb;have:o'=o:=by
     have h4:ops[i]?=some o:=by simpa using ho
     rw[h4]at ho';exact(Option.some.inj ho').symm
    subst this;exact hee e he' hb
   have hF':(fun j=>(listed.setIfInBounds i true).getD j false)=fun j=>listed.getD j false || j == i:=by
    funext j;by_cases e:j=i
    ·subst e;simp[h3]
    ·rw[getD_set_ne false (Ne.symm e)];have:(j == i)=false:=by simp[e]
     simp[this]
   have hnext:∀ a' w',(∃ s G,J (fun j=>listed.getD j false || j == i) s/\Sim W0 M0 N s G w' a')->wpAnyIn (fen ρ) 0 P .any ops.toArray (fun e a' w'=>∃ x st' G',aX e=some x/\Q x st'/\Sim W0 M0 N st' G' w' a') fuel (listed.setIfInBounds i true) a' w':=by
    intro a' w' hI';refine ih _ a' w' (by simp at hsz ⊢;exact hsz) ?_ ?_ (by rw[hF'];exact hI')
    ·have:=np (p:=fun j => !listed.getD j false) (q:=fun j => !(listed.setIfInBounds i true).getD j false) (i:=i) ?_ (by simp[hFi]) (by simp[h3]) (List.mem_range.2 hlt)
     ·omega
     ·intro j hj;cases hh:listed.getD j false with
      | false=>rfl
      | true=>rw[getD_set_true hh]at hj;simp at hj
    ·intro j hj o' ho' e he' hb;have hj':(listed.getD j false || j == i)=true:=by rw[<-congrFun hF' j];exact hj
     refine getD_set_true ?_;simp only[Bool.or_eq_true,beq_iff_eq]at hj';rcases hj' with hj'|hj'
     ·exact hcl j hj' o' ho' e he' hb
     ·subst hj';exact hei o' ho' e he' hb
   have hoi:ops[i]?=some o:=by simpa using ho
   obtain⟨t,hg,ht,hf⟩:=step _ s i o hJ hoi hFi hei hcl;simp only[wpOpIn,ho];rw[gc S hg];cases t with
   | true =>
    simp only[if_true];refine bP (oz (ht rfl)) (Oper.wp_mono ?_ (gN (Q:=_) S (hN i o ho) (ht rfl)));rintro a' w' ⟨st',G',hK,hS⟩;exact hnext a' w' ⟨st',G',hK,hS⟩
   | false =>
    simp only[Bool.false_eq_true,if_false];exact⟨fun _ _=>trivial,hnext _ _ ⟨_,G,hf rfl,ji S (hN i o ho)⟩⟩
 refine main _ _ _ _ (by simp) ?_ ?_ ⟨st,G,?_,S.drew⟩
 ·exact ac List.countP_le_length (by simp)
 ·intro j hj;rw[bM]at hj;simp at hj
 ·have:(fun j=>(Array.replicate ops.toArray.size false).getD j false)=fun _=>false:=by
   funext j;exact bM _ _
  rw[this];exact h0
theorem DR {K:St->Prop} {ops:List Oper} (hm:P.follows .mixedOrders=true) (J:(Nat->Bool)->St->Prop) (he:(List.range ops.length).all (fun i=>((ops[i]?).map fun o=>o.after.all fun e => !Region.binds .any e || decide (e.on<i)).getD true)=true)
  (h0:J (fun _=>false) st)
  (step:∀(F:Nat->Bool) (s:St) (i:Nat) (o:Oper),J F s->ops[i]?=some o->F i=false->dw ops F i->(∀ j,F j=true->dw ops F j)->o.guard=none/\W P kind none o.dst (fun s'=>J (fun j=>F j || j == i) s') s o.op)
  (fin:∀ F s,J F s->(∀ j,j<ops.length->F j=true)->K s):uS P kind ops K st ⟨⟩ :=
 .inr fun _ _ hQ=>WP.any kind hm J he h0 (fun F s i o h1 h2 h3 h4 h5=>by
  obtain⟨h6,h7⟩:=step F s i o h1 h2 h3 h4 h5;exact⟨true,by simp[gd,h6],fun _=>nv h7,fun h=>nomatch h⟩) fun F s h1 h2=>hQ s (fin F s h1 h2)
theorem WP.seq_kk {x y:Code} (kind:FuncId->CK) (h:∀ K:aK->St->Prop,(∀ s,WP P y Q s->K .normal s)->(∀ e s,e ≠ .normal->Q e s->K e s)->CW P kind x K st):WP P (.seq x y) Q st:=by
 refine WP.seq (br x (h (iq (WP P y Q) Q) (fun _ h=>h) fun e s hne h=>?_));cases e with
 | normal=>exact(hne rfl).elim
 | exit id=>exact h
 | ret=>exact h
end
end Go.AM
namespace Go.AM
open Go.Proofs
open Classical
abbrev iW (n:Int):IV := .c (.v (.int .u64 n))
theorem D3 (P:Program) (T:TypeId) (x y:Operand) (k':IntKind) (a:Int) (K:Value->Prop):d7 P .and T x y (.int .u64 a) (.int k' 4294967295) K=(.u64=k'/\K (.int .u64 (a % 4294967296))):=by
 rw[rO,lO];refine congrArg (fun n=>(IntKind.u64=k'/\K (.int .u64 n))) ?_;show((BitVec.ofInt 64 a &&& BitVec.ofInt 64 4294967295).toNat:Int) % _=_;rw[BitVec.toNat_and,BitVec.toNat_ofInt,BitVec.toNat_ofInt];have e1:((4294967295:Int) % (2 ^ 64:Nat)).toNat=2 ^ 32-1:=by decide
 rw[e1,Nat.and_two_pow_sub_one_eq_mod];omega
attribute [go_sem ↓ 10000] D3
theorem IR (n:Nat) (h:n<4294967296):Fn Tryz.prog 145 [iW 1,iW n] [iW 0,iW n]:=by
 have e1:(n:Int) % 4294967296=n:=by omega
 have e2:(n:Int)/4294967296=0:=by omega
 have e3:(n:Int) % 18446744073709551616=n:=by omega
 refine ak (fn:=Tryz.f145) (by rfl) rfl rfl rfl (by rfl) ?_;simp -dsimp -implicitDefEqProofs only[go_sem,e1,e2,e3,Int.reduceMod,Int.reduceDiv,Int.one_mul,Int.zero_mul,Int.mul_zero,Int.add_zero,Int.zero_add]
theorem uA (n:Nat) (h:n<4294967296):Fn Tryz.prog 104 [iW 1,iW n] [iW 0,iW n]:=by
 refine ak (fn:=Tryz.f104) (by rfl) rfl rfl rfl (by rfl) ?_;simp -dsimp -implicitDefEqProofs only[go_sem];refine an (IR n h) ?_;simp -dsimp -implicitDefEqProofs only[go_sem]
theorem wK:eB Tryz.prog 25=some ⟨true,2,48,some [C.lst [],C.lst []],none,none,[(0,42),(1,42)]⟩:=by rfl
def GB (τ0:Nat->AV) (β:Nat->BX) (ε0 ε1:Nat->EN) (π:Nat->MP) (vals:List AV) (v8 v8':AV) (F:Nat->Bool) (s:St):Prop :=
 (∀ i v,vals[i]?=some v->F i=true->s.t (38+i)=v)/\Kp [(8,8),(34,46)] τ0 s.t/\(F 9=false->s.t 8=v8)/\(F 9=true->s.t 8=v8')/\s.b=β/\s.p=π/\s.e=if F 7=true then ε1 else ε0
theorem u3 {τ0:Nat->AV} {β:Nat->BX} {ε0 ε1:Nat->EN} {π:Nat->MP} {vals:List AV} {v8 v8':AV} {F:Nat->Bool} {τ:Nat->AV} {ε:Nat->EN} {ε':Nat->EN} {i:Nat} {v:AV} (h:GB τ0 β ε0 ε1 π vals v8 v8' F ⟨τ,β,ε,π⟩)
  (hi:i<9) (hv:vals[i]?=some v) (hF9:F 9=false) (he:ε'=if(F 7 || 7 == i)=true then ε1 else ε0):GB τ0 β ε0 ε1 π vals v8 v8' (fun j=>F j || j == i) ⟨upd τ (38+i) v,β,ε',π⟩:=by
 obtain⟨h1,h2,h3,h4,h5,h6,h7⟩:=h;refine⟨fun j u hj hF=>?_,?_,fun _=>?_,fun h=>?_,rfl,rfl,he⟩
 ·by_cases e:j=i
  ·subst e;rw[hv]at hj;cases hj;exact aq _ _ _
  ·have:(38+j)≠38+i:=by omega
   simp only[ax _ _ this];refine h1 j u hj ?_;have e':(j == i)=false:=by simp[e]
   simpa [e']using hF
 ·show Kp _ τ0 (upd τ (38+i) v);rw[s6 _ _ _ _ _ (by simp[inR];omega)];exact h2
 ·show upd τ (38+i) v 8=v8;rw[ax _ _ (by omega)];exact h3 hF9
 ·have e':(9 == i)=false:=by simp;omega
  simp[e',hF9]at h
theorem eE {τ0:Nat->AV} {β:Nat->BX} {ε0 ε1:Nat->EN} {π:Nat->MP} {vals:List AV} {v8 v8':AV} {F:Nat->Bool} {τ:Nat->AV} {ε:Nat->EN} (i:Nat) {v:AV} (h:GB τ0 β ε0 ε1 π vals v8 v8' F ⟨τ,β,ε,π⟩)
  (hi:i<9) (h7:i≠7) (hv:vals[i]?=some v) (hF9:F 9=false):GB τ0 β ε0 ε1 π vals v8 v8' (fun j=>F j || j == i) ⟨upd τ (38+i) v,β,ε,π⟩ :=
 u3 h hi hv hF9 (by
  have e:(7 == i)=false:=by simp;omega
  rw[e,Bool.or_false];exact h.2.2.2.2.2.2)
theorem vA (r:List C) (hr:r.length=2) (n:Nat) (hn0:0<n) (hn:n<=1048576):FnM Tryz.prog 62 [.c (.lst [r]),iN n] 2 (List.replicate n r):=by
 have e1:decide ((n:Int)<0)=false:=aj (by omega);have e2:(n:Int) % 18446744073709551616=n:=by omega
 have e3:decide ((9223372036854775807:Int)<(n:Int))=false:=aj (by omega);refine qv kd (fn:=Tryz.f62) (by rfl) rfl rfl rfl (by rfl) (by simp) (by rfl) ?_;simp -dsimp -implicitDefEqProofs only[go_sem,e1,e2];refine aa (uA n (by omega)) rfl ?_;have e0:decide ((0:Int)<0)=false:=rfl;have e4:IntKind.wrap .i64 (n:Int)=n:=by
  simp only[IntKind.wrap,IntKind.bits,IntKind.signed,Bool.true_and,Nat.reduceSub,Int.reducePow];split<;>rename_i h4<;>simp only[decide_eq_true_eq,ge_iff_le]at h4<;>omega
 simp -dsimp -implicitDefEqProofs only[go_sem,e0,e3,e4,Int.toNat_natCast]
 repeat(refine And.intro (by omega) ?_)
 refine lV (t:=30) (g:=1) (len:=n) (xs:=[r]) rfl rfl (by decide) rfl rfl wK rfl (by simpa using hr) ?_;have em:min [r].length n=1:=by simp;omega
 rw[em];simp -dsimp -implicitDefEqProofs only[go_sem];refine aS [(8,8),(34,46)] [] [(30,30)] (fun k τ β ε=>∃ m:Nat,k=n-m/\1<=m/\m<=n/\τ 8 = .i (iN m)/\ε 30=⟨1,2,List.replicate m r++List.replicate (n-m) [C.lst [],C.lst []],true,true⟩)
  (fun e τ β ε=>e = .exit 0/\ε 30=⟨1,2,List.replicate n r,true,true⟩) (n-1) ?_ ?_ ?_
 ·refine⟨1,?_,by omega,by omega,rfl,?_⟩
  ·rfl
  ·simp -dsimp -implicitDefEqProofs only[go_sem];simp
 ·rintro k τ β ε π hK hKB hKE ⟨m,hk,hm1,hm,h8,h30⟩;have k7:τ 7 = .sl 30 1 n:=(hK 7 rfl).trans rfl;by_cases hlt:m<n
  ·have hA:(m:Int)<(n:Int):=by omega
   have hm0:¬ m=0:=by omega
   simp -dsimp -implicitDefEqProofs only[go_sem,h8,k7,h30,hA];obtain⟨ε1,hε1⟩:∃ x:Nat->EN,x=upd ε 30 ⟨1,2,List.replicate (m+min m (n-m)) r++List.replicate (n-(m+min m (n-m))) [C.lst [],C.lst []],true,true⟩:=⟨_,rfl⟩;obtain⟨q,hq⟩:∃ q:Nat,q=min m (n-m):=⟨_,rfl⟩;obtain⟨vals,hvals⟩:∃ vals:List AV,vals=[.i (iN m),.sl 30 1 n,.i (iN m),.sub 30 1 m (n-m) 2,.sl 30 1 n,.i (iN m),.sl 30 1 m,.i (iN q),.i (iN ((m+q:Nat):Int))]:=⟨_,rfl⟩;refine DR (by rfl) (GB τ β ε ε1 π vals (.i (iN m)) (.i (iN ((m+q:Nat):Int)))) (by decide +kernel) ?_ ?_ ?_
   ·exact⟨fun _ _ _ h=>(nomatch h),(by repeat(first|exact Kp.refl _ _|refine am rfl ?_)),fun _=>h8,fun h=>(nomatch h),rfl,rfl,rfl⟩
   ·rintro F ⟨τ2,β2,ε2,π2⟩ i o hJ ho hFi hE hcl;obtain⟨h1,h2,h3,h4,h5,h6,h7⟩:=id hJ;dsimp only at h1 h2 h3 h4 h5 h6 h7;subst h5 h6;have h9:F 9=true->∀ i,i<9->F i=true:=fun h i hi=>by
     have hE9:=hcl 9 h _ rfl;obtain rfl|rfl|rfl|rfl|rfl|rfl|rfl|rfl|rfl:i=0\/i=1\/i=2\/i=3\/i=4\/i=5\/i=6\/i=7\/i=8:=by omega
     all_goals exact hE9 ⟨_,.phase⟩ (by simp) rfl
    have k7':τ2 7 = .sl 30 1 n:=by rw[h2 7 (by decide)];exact k7
    have hF9:i<9->F 9=false:=fun hi=>by
     cases h:F 9 with
     | false=>rfl
     | true=>rw[h9 h i hi]at hFi;cases hFi
    have e30:(ε2 30).gen=1/\(ε2 30).rs.length=n:=by
     rw[h7];split
     ·rw[hε1,aq];exact⟨rfl,by simp;omega⟩
     ·rw[h30];exact⟨rfl,by simp;omega⟩
    match i,ho with
    | 0,ho =>
     cases ho;refine⟨rfl,?_⟩;simp -dsimp -implicitDefEqProofs only[go_sem,h3 (hF9 (by omega))];exact eE 0 hJ (by decide) (by decide) (by rw[hvals];rfl) (hF9 (by omega))
    | 1,ho =>
     cases ho;refine⟨rfl,?_⟩;simp -dsimp -implicitDefEqProofs only[go_sem,k7'];exact eE 1 hJ (by decide) (by decide) (by rw[hvals];rfl) (hF9 (by omega))
    | 2,ho =>
     cases ho;refine⟨rfl,?_⟩;simp -dsimp -implicitDefEqProofs only[go_sem,h3 (hF9 (by omega))];exact eE 2 hJ (by decide) (by decide) (by rw[hvals];rfl) (hF9 (by omega))
    | 3,ho =>
     cases ho;have t39:τ2 39 = .sl 30 1 n:=h1 1 _ (by rw[hvals];rfl) (hE _ rfl ⟨1,.data⟩ (by simp) rfl);have t40:τ2 40 = .i (iN m):=h1 2 _ (by rw[hvals];rfl) (hE _ rfl ⟨2,.data⟩ (by simp) rfl);refine⟨rfl,?_⟩;simp -dsimp -implicitDefEqProofs only[go_sem,t39,t40,hm0,e30.1,Int.toNat_natCast];exact⟨hm,hlt,eE 3 hJ (by decide) (by decide) (by rw[hvals];rfl) (hF9 (by omega))⟩
    | 4,ho =>
     cases ho;refine⟨rfl,?_⟩;simp -dsimp -implicitDefEqProofs only[go_sem,k7'];exact eE 4 hJ (by decide) (by decide) (by rw[hvals];rfl) (hF9 (by omega))
    | 5,ho =>
     cases ho;refine⟨rfl,?_⟩;simp -dsimp -implicitDefEqProofs only[go_sem,h3 (hF9 (by omega))];exact eE 5 hJ (by decide) (by decide) (by rw[hvals];rfl) (hF9 (by omega))
    | 6,ho =>
     cases ho;have t42:τ2 42 = .sl 30 1 n:=h1 4 _ (by rw[hvals];rfl) (hE _ rfl ⟨4,.data⟩ (by simp) rfl);have t43:τ2 43 = .i (iN m):=h1 5 _ (by rw[hvals];rfl) (hE _ rfl ⟨5,.data⟩ (by simp) rfl);refine⟨rfl,?_⟩;simp -dsimp -implicitDefEqProofs only[go_sem,t42,t43,e30.1,Int.toNat_natCast];exact⟨hm,eE 6 hJ (by decide) (by decide) (by rw[hvals];rfl) (hF9 (by omega))⟩
    | 7,ho =>
     cases ho;have t41:τ2 41 = .sub 30 1 m (n-m) 2:=h1 3 _ (by rw[hvals];rfl) (hE _ rfl ⟨3,.data⟩ (by simp) rfl);have t44:τ2 44 = .sl 30 1 m:=h1 6 _ (by rw[hvals];rfl) (hE _ rfl ⟨6,.data⟩ (by simp) rfl);rw[hFi]at h7;simp only[Bool.false_eq_true,if_false]at h7;subst h7;refine⟨rfl,?_⟩;simp -dsimp -implicitDefEqProofs only[go_sem];have hxs:(List.replicate m r++List.replicate (n-m) [C.lst [],C.lst []]).take m=List.replicate m r:=by
      rw[List.take_left' (by simp)]
     refine y3 (t:=30) (g:=1) (lo:=m) (len:=n-m) (sz:=2) (xs:=List.replicate m r) (by simp -dsimp -implicitDefEqProofs only[go_sem,t41]) (by simp -dsimp -implicitDefEqProofs only[go_sem,h30]) (by decide) (by simp -dsimp -implicitDefEqProofs only[go_sem,h30]) (by simp -dsimp -implicitDefEqProofs only[go_sem,t44,h30];rw[hxs]) wK (by simp -dsimp -implicitDefEqProofs only[go_sem,h30]) (by simp -dsimp -implicitDefEqProofs only[go_sem,h30]) (fun x hx=>by rw[List.eq_of_mem_replicate hx];exact hr) ?_ ?_ ?_
     ·simp -dsimp -implicitDefEqProofs only[go_sem,h30];intro x hx;rcases List.mem_append.1 hx with hx|hx
      ·rw[List.eq_of_mem_replicate hx];exact hr
      ·rw[List.eq_of_mem_replicate hx];rfl
     ·simp -dsimp -implicitDefEqProofs only[go_sem,h30];simp<;>omega
     ·simp -dsimp -implicitDefEqProofs only[go_sem,h30];refine u3 (i:=7) hJ (by decide) ?_ (hF9 (by omega)) ?_
      ·rw[hvals,List.length_replicate,hq];rfl
      ·have e7:(F 7 || 7 == 7)=true:=by simp
       rw[if_pos e7,hε1,List.length_replicate,List.take_left' (by simp),List.drop_append];congr 2;have e8:min (min m (n-m)) m=min m (n-m):=by omega
       have e9:m-(m+min m (n-m))=0:=by omega
       have e10:n-m-(m+min m (n-m)-m)=n-(m+min m (n-m)):=by omega
       simp only[List.take_replicate,List.drop_replicate,List.length_replicate,e8,e9,e10,List.replicate_zero,List.nil_append,List.replicate_append_replicate]
    | 8,ho =>
     cases ho;have t38:τ2 38 = .i (iN m):=h1 0 _ (by rw[hvals];rfl) (hE _ rfl ⟨0,.data⟩ (by simp) rfl);have t45:τ2 45 = .i (iN q):=h1 7 _ (by rw[hvals];rfl) (hE _ rfl ⟨7,.data⟩ (by simp) rfl);refine⟨rfl,?_⟩;simp -dsimp -implicitDefEqProofs only[go_sem,t38,t45]
     repeat(refine And.intro (by omega) ?_)
     exact eE 8 hJ (by decide) (by decide) (by rw[hvals];rfl) (hF9 (by omega))
    | 9,ho =>
     cases ho;have hall:∀ i,i<9->F i=true:=fun i hi=>by
      have hE9:=hE _ rfl;obtain rfl|rfl|rfl|rfl|rfl|rfl|rfl|rfl|rfl:i=0\/i=1\/i=2\/i=3\/i=4\/i=5\/i=6\/i=7\/i=8:=by omega
      all_goals exact hE9 ⟨_,.phase⟩ (by simp) rfl
     have t46:τ2 46 = .i (iN ((m+q:Nat):Int)):=h1 8 _ (by rw[hvals];rfl) (hall 8 (by omega));refine⟨rfl,?_⟩;simp -dsimp -implicitDefEqProofs only[go_sem,t46];refine⟨fun j u hj hF=>?_,?_,fun h=>?_,fun _=>?_,rfl,rfl,?_⟩
     ·have hj9:j<9:=by
       have:=(List.getElem?_eq_some_iff.1 hj).1;rw[hvals]at this;simpa using this
      show upd τ2 8 _ (38+j)=u;rw[ax _ _ (by omega)];exact h1 j u hj (hall j hj9)
     ·show Kp _ τ (upd τ2 8 _);rw[s6 _ _ _ _ _ (by decide)];exact h2
     ·simp at h
     ·show upd τ2 8 _ 8=_;exact aq _ _ _
     ·show ε2=_;rw[h7,if_pos (hall 7 (by omega)),if_pos (by show(F 7 || 7 == 9)=true;rw[hall 7 (by omega)];rfl)]
    | i+10,ho=>simp at ho
   ·rintro F ⟨τ2,β2,ε2,π2⟩ ⟨h1,h2,h3,h4,h5,h6,h7⟩ hall;dsimp only at h1 h2 h3 h4 h5 h6 h7;subst h5 h6;rw[hall 7 (by simp)]at h7;simp only[if_true]at h7;have t8:=h4 (hall 9 (by simp));have k7':τ2 7 = .sl 30 1 n:=by rw[h2 7 (by decide)];exact k7
    simp -dsimp -implicitDefEqProofs only[go_sem];refine again (n-(m+q)) (by omega) ⟨?_,hKB,?_,m+q,rfl,by omega,by omega,t8,?_⟩
    ·exact Kp.step h2 (fun _ h=>h) hK
    ·rw[h7,hε1,s6 _ _ _ _ _ (by decide)];exact hKE
    ·rw[h7,hε1,aq,hq]
  ·have hA:¬ (m:Int)<(n:Int):=by omega
   obtain rfl:m=n:=by omega
   simp -dsimp -implicitDefEqProofs only[go_sem,h8,k7,h30,hA];exact⟨(by(repeat apply am rfl);exact hK),hKB,hKE⟩
 ·rintro e τ β ε π hK hKB hKE ⟨rfl,h30⟩;have k7:τ 7 = .sl 30 1 n:=(hK 7 rfl).trans rfl;refine⟨_,aY.refl _,?_⟩;simp -dsimp -implicitDefEqProofs only[go_sem,k7,h30];refine⟨30,1,by rw[List.length_replicate],by omega,?_⟩;have e5:(!(List.replicate n r).isEmpty)=true:=by
   cases n with
   | zero=>omega
   | succ n=>rfl
  rw[h30,e5]
theorem BT (r:List C):FnM Tryz.prog 62 [.c (.lst [r]),iN 0] 2 []:=by
 have e0:decide ((0:Int)<0)=false:=rfl;have e3:decide ((9223372036854775807:Int)<((0:Nat):Int))=false:=rfl;refine jd (P:=Tryz.prog) (fn:=Tryz.f62) (by rfl) rfl (by rfl) (by simp) (by rfl) ?_;refine WP.seq_kk kd fun K hK _=>?_;simp -dsimp -implicitDefEqProofs only[go_sem];refine hK _ ?_;refine WP.seq_kk kd fun K hK _=>?_;simp -dsimp -implicitDefEqProofs only[go_sem,e0];refine hK _ ?_;refine WP.seq_kk kd fun K hK _=>?_;simp -dsimp -implicitDefEqProofs only[go_sem];refine aa (uA 0 (by omega)) rfl ?_;simp -dsimp -implicitDefEqProofs only[go_sem];refine hK _ ?_;refine WP.seq_kk kd fun K hK _=>?_;simp -dsimp -implicitDefEqProofs only[go_sem,e0,e3];refine hK _ ?_;refine WP.seq ?_;refine WP.semAt kd 2 rfl rfl (by intro c h;cases h) ?_;simp -dsimp -implicitDefEqProofs only[go_sem];refine yr rfl wK rfl ?_ ?_ ?_
 ·refine⟨.i64,?_⟩;simp -dsimp -implicitDefEqProofs only[go_sem];rfl
 ·refine⟨.i64,?_⟩;simp -dsimp -implicitDefEqProofs only[go_sem];rfl
 ·simp -dsimp -implicitDefEqProofs only[go_sem];refine WP.end_k kd fun K hK=>?_;simp -dsimp -implicitDefEqProofs only[go_sem];refine y4 (xs:=[r]) rfl rfl wK ?_;simp -dsimp -implicitDefEqProofs only[go_sem];refine aJ [(8,8),(34,46)] [] [] (fun k τ β ε=>k=0/\τ 8 = .i (iN 0)) (fun e τ β ε=>e = .exit 0) 0 ⟨rfl,rfl⟩ ?_ ?_
  ·rintro k τ β ε π hK hKB hKE ⟨rfl,h8⟩;have k7:τ 7 = .fl []:=(hK 7 rfl).trans rfl;have hA:decide ((0:Int)<((0:Nat):Int))=false:=rfl;simp -dsimp -implicitDefEqProofs only[go_sem,h8,k7,hA];exact⟨(by(repeat apply am rfl);exact hK),hKB,hKE⟩
  ·rintro e τ β ε π hKp hKB hKE rfl;have k7:τ 7 = .fl []:=(hKp 7 rfl).trans rfl;simp -dsimp -implicitDefEqProofs only[go_sem,k7];refine hK _ _ ⟨.inr rfl,4,rfl,.inl ⟨rfl,rfl⟩⟩
end Go.AM
namespace Alg
open Classical
section
variable {R:Type} [CR R]
noncomputable def cl (p:P R):List R:=(List.range (sz p)).map p.c
def pl (l:List R):P R:=⟨fun i=>l.getD i 0,l.length,fun i hi=>by simp[List.getD,List.getElem?_eq_none hi]⟩
theorem qZ (l:List R) (i:Nat):(pl l).c i=l.getD i 0:=rfl
theorem aD (p:P R):(cl p).length=sz p:=by simp[cl]
theorem ft (p:P R) {i:Nat} (h:i<(cl p).length):(cl p)[i]=p.c i:=by simp[cl]
theorem li (p:P R) (i:Nat):(cl p).getD i 0=p.c i:=by
 rcases Nat.lt_or_ge i (sz p)with h|h
 ·simp[cl,List.getD,h]
 ·rw[au h];simp[cl,List.getD,h]
theorem GL (p:P R):pl (cl p)=p:=P.ext fun i=>li p i
theorem pm:cl (0:P R)=[]:=by simp[cl,ap.2]
theorem NO {p q:P R} (h:cl p=cl q):p=q:=by rw[<-GL p,<-GL q,h]
theorem mI {p:P R} {x:R} (h:x∈cl p):∃ i,i<sz p/\x=p.c i:=by
 simp only[cl,List.mem_map,List.mem_range]at h;obtain⟨i,hi,rfl⟩:=h;exact⟨i,hi,rfl⟩
theorem LU (l:List R):sz (pl l)<=l.length:=cm fun i hi=>by simp[qZ,List.getD,List.getElem?_eq_none hi]
theorem C9 {l:List R} {p:P R} (h:∀ i (hi:i<l.length),l[i]=p.c i) (hz:∀ i,l.length<=i->p.c i=0) (hl:∀ h:l.length-1<l.length,l[l.length-1]≠0):l=cl p:=by
 have hs:sz p=l.length:=jK hz fun h0=>by
  rw[<-h _ (by omega)];exact hl (by omega)
 refine List.ext_getElem (by rw[aD,hs]) fun i h1 h2=>?_;rw[h i h1,ft]
theorem cl_C {a:R} (h:a≠0):cl (C a)=[a]:=(C9 (l:=[a]) (p:=C a) (fun i hi=>by
 have:i=0:=by simpa using hi
 subst this;rfl) (fun i hi=>by cases i with|zero=>simp at hi|succ i=>rfl) (fun _=>h)).symm
def der (p:P R):P R:=⟨fun i=>nc (i+1)*p.c (i+1),by
 obtain⟨n,hn⟩:=p.fin;exact⟨n,fun i hi=>by rw[hn _ (by omega),mul_zero]⟩⟩
theorem jt (p:P R) (i:Nat):(der p).c i=nc (i+1)*p.c (i+1):=rfl
theorem KK (p q:P R):der (p+q)=der p+der q:=P.ext fun i=>by rw[jt,bK,bK,jt,jt,mul_add]
theorem wS (p q:P R):der (p*q)=der p*q+p*der q:=P.ext fun n=>by
 rw[jt,bK,gA,<-rj];have e1:tri (fun i j=>nc (n+1)*(p.c i*q.c j)) (n+1)=tri (fun i j=>nc i*p.c i*q.c j) (n+1)+tri (fun i j=>p.c i*(nc j*q.c j)) (n+1):=by
  rw[<-vV];refine dD fun i j e=>?_;rw[<-e,p9];exact ring [nc i,nc j,p.c i,q.c j]
 rw[e1];congr 1
 ·show nc 0*p.c 0*q.c (n+1)+tri (fun i j=>nc (i+1)*p.c (i+1)*q.c j) n=_;rw[show(nc 0:R)=0 from rfl,zero_mul,zero_mul,zero_add];rfl
 ·rw[xN];show _+p.c (n+1)*(nc 0*q.c 0)=_;rw[show(nc 0:R)=0 from rfl,zero_mul,mul_zero,add_zero];rfl
theorem Pv (a:R):der (C a)=0:=P.ext fun i=>by rw[jt,gh,mul_zero];rfl
theorem Bx (p:P R):sz (der p)<=sz p-1:=cm fun i hi=>by rw[jt,au (by omega),mul_zero]
theorem KJ (p:P R):der (-p) = -der p:=P.ext fun i=>by rw[jt,vu,vu,jt,mul_neg]
theorem KI (p q:P R):der (p-q)=der p-der q:=by rw[sub_eq,KK,KJ,sub_eq]
theorem Pu:der (X:P R)=1:=P.ext fun i=>by
 rw[jt,X,bJ];cases i with
 | zero=>simp only[nc,zero_add,mul_one,if_true];rfl
 | succ i=>rw[if_neg (by omega),mul_zero];rfl
end
section
variable {F:Type} [CR F] [Fd F]
theorem Bv (b:P F) (hb:b≠0):∀(n:Nat) (a:P F),sz a<=n->∃ q r:P F,a=q*b+r/\sz r<sz b:=by
 intro n
 induction n with
 | zero=>exact fun a h=>⟨0,a,by rw[zero_mul,zero_add],by have:=az hb;omega⟩
 | succ n ih =>
  intro a h;rcases Nat.lt_or_ge (sz a) (sz b)with h1|h1
  ·exact⟨0,a,by rw[zero_mul,zero_add],h1⟩
  ·have hb0:=az hb;have hlow:sz (a-mon (sz a-sz b) (lc a*inv (lc b))*b)<=n:=cm fun i hi=>by
    rw[iu,bY,if_pos (by omega)];by_cases e:i=sz a-1
    ·subst e;rw[show sz a-1-(sz a-sz b)=sz b-1 by omega];show lc a-lc a*inv (lc b)*lc b=0;rw[mul_assoc,cx (bu hb),mul_one,sub_self]
    ·rw[au (by omega:sz a<=i),au (p:=b) (by omega),mul_zero,sub_self]
   obtain⟨q,r,e1,e2⟩:=ih _ hlow;refine⟨q+mon (sz a-sz b) (lc a*inv (lc b)),r,?_,e2⟩;exact lc1 1 e1 (ring [a,mon (sz a-sz b) (lc a*inv (lc b)),b,q,r])
theorem H8 {b q r q' r':P F} (h:q*b+r=q'*b+r') (hr:sz r<sz b) (hr':sz r'<sz b):q=q'/\r=r':=by
 have e:(q-q')*b=r'-r:=lc1 (1:P F) h (ring [q,q',b,r,r']);have hq:q=q':=Classical.byContradiction fun hne=>by
  have h1:q-q'≠0:=fun e=>hne (ff e);have hb:b≠0:=fun e=>by rw[e,ap.2 rfl]at hr;omega
  have h2:=cO h1 hb;have h3:=az h1;rw[e]at h2;have h4:=fP (p:=r') (q:=r) (n:=sz b-1) (by omega) (by omega);omega
 subst hq;exact⟨rfl,fH h⟩
noncomputable def qu (a b:P F):P F:=if h:b≠0 then choose (Bv b h (sz a) a (ae _))else 0
noncomputable def re (a b:P F):P F:=if h:b≠0 then choose (choose_spec (Bv b h (sz a) a (ae _)))else a
theorem qure {a b:P F} (h:b≠0):a=qu a b*b+re a b/\sz (re a b)<sz b:=by
 simp only[qu,re,dif_pos h];exact choose_spec (choose_spec (Bv b h (sz a) a (ae _)))
theorem kM {a b q r:P F} (h:a=q*b+r) (hr:sz r<sz b):qu a b=q/\re a b=r:=by
 have hb:b≠0:=fun e=>by rw[e,ap.2 rfl]at hr;omega
 obtain⟨h1,h2⟩:=qure (a:=a) hb;exact H8 (h1.symm.trans h) h2 hr
theorem Nh {b c:P F} (h:b≠0):qu (c*b) b=c:=(kM (a:=c*b) (b:=b) (q:=c) (r:=0) (by rw[add_zero]) (by rw[ap.2 rfl];exact az h)).1
theorem Nw {a b g:P F} (h:b≠0):IsG g b (re a b)↔IsG g a b:=by
 obtain⟨h1,-⟩:=qure (a:=a) h;have e:re a b=a-qu a b*b:=lc1 (-1) h1 (ring [a,qu a b,b,re a b]);constructor
 ·rintro ⟨k1,k2,k3⟩;refine⟨?_,k1,fun d d1 d2=>k3 d d2 ?_⟩
  ·rw[h1];exact(k1.mul_left _).add k2
  ·rw[e];exact d1.sub (d2.mul_left _)
 ·rintro ⟨k1,k2,k3⟩;refine⟨k2,?_,fun d d1 d2=>k3 d ?_ d1⟩
  ·rw[e];exact k1.sub (k2.mul_left _)
  ·rw[h1];exact(d1.mul_left _).add d2
end
section
variable {F:Type} [CR F] [Fd F]
noncomputable def mn (p:P F):P F:=C (inv (lc p))*p
theorem ng:mn (0:P F)=0:=mul_zero _
theorem O9 {p:P F} (h:p≠0):lc (mn p)=1:=by rw[mn,f6,n9,cx (bu h)]
theorem oW {p:P F} (h:lc p=1):mn p=p:=by rw[mn,h,CS,bU,one_mul]
theorem O5 (p:P F):mn (mn p)=mn p:=by
 by_cases h:p=0
 ·rw[h,ng,ng]
 ·exact oW (O9 h)
theorem LY (p:P F):sz (mn p)=sz p:=by
 by_cases h:p=0
 ·rw[h,ng]
 ·exact bF (eH (bu h)) p
theorem Nm (p q:P F):mn (p*q)=mn p*mn q:=by
 rw[mn,f6,s9,bf,mn,mn];exact ring [C (inv (lc p)),C (inv (lc q)),p,q]
theorem yp {c:F} (h:c≠0) (p:P F):mn (C c*p)=mn p:=by
 rw[Nm,mn,n9,<-bf,cx h,bU,one_mul]
theorem Ps (p:P F):Dv p (mn p):=(Dv.refl p).mul_left _
theorem L3 (p:P F):Dv (mn p) p:=by
 by_cases h:p=0
 ·rw[h,ng];exact Dv.refl _
 ·refine⟨C (lc p),?_⟩;rw[mn,mul_comm,<-mul_assoc,<-bf,mul_inv (bu h),bU,one_mul]
theorem yT {a b:P F} (h:Dv a b) (h':Dv b a):mn a=mn b:=by
 obtain⟨c,rfl⟩:=h;by_cases ha:a=0
 ·rw[ha,zero_mul]
 ·obtain⟨d,hd⟩:=h';have e:c*d=1:=bZ ha (by rw[<-mul_assoc,<-hd,mul_one]);have hc:c≠0:=fun e'=>by rw[e',zero_mul]at e;exact one_ne e.symm
  have hd':d≠0:=fun e'=>by rw[e',mul_zero]at e;exact one_ne e.symm
  have hs:=cO hc hd';have h1:sz (1:P F)=1:=iH one_ne;have:=az hc;have:=az hd';rw[e,h1]at hs;have hcC:=eX (p:=c) (by omega);have hc0:c.c 0≠0:=fun e'=>hc (by rw[hcC,e',cu]);rw[hcC,mul_comm,yp hc0]
theorem Nx {g a b:P F} (h:IsG g a b):IsG (mn g) a b:=⟨(L3 g).trans h.1,(L3 g).trans h.2.1,fun d h1 h2=>(h.2.2 d h1 h2).trans (Ps g)⟩
noncomputable def gd (a b:P F):P F:=mn (choose (rh.ex a b))
theorem rB (a b:P F):IsG (gd a b) a b:=Nx (choose_spec (rh.ex a b))
theorem L0 (a b:P F):mn (gd a b)=gd a b:=O5 _
theorem rA {g a b:P F} (h:IsG g a b):mn g=gd a b:=by
 rw[<-L0];exact yT ((rB a b).2.2 g h.1 h.2.1) (h.2.2 _ (rB a b).1 (rB a b).2.1)
theorem pa (a:P F):gd a 0=mn a:=(rA ⟨Dv.refl a,Dv.zero a,fun _ h _=>h⟩).symm
theorem HL {a b:P F} (h:b≠0):gd b (re a b)=gd a b:=by
 rw[<-rA ((Nw (a:=a) h).1 (rB b (re a b))),L0]
noncomputable def eu (a b:P F):List (P F×P F):=if _h:b=0 then[]else(a,b)::eu b (re a b)
termination_by sz b
decreasing_by exact(qure _h).2
theorem iJ (a:P F):eu a 0=[]:=by rw[eu,dif_pos rfl]
theorem jS {a b:P F} (h:b≠0):eu a b=(a,b)::eu b (re a b):=by rw[eu,dif_neg h]
noncomputable def euL (a b:P F):P F:=(((eu a b).getLast?).map (·.2)).getD a
theorem mC (a:P F):euL a 0=a:=by rw[euL,iJ];rfl
theorem pc {a b:P F} (h:b≠0):euL a b=euL b (re a b):=by
 rw[euL,euL,jS h,List.getLast?_cons];cases (eu b (re a b)).getLast?<;>rfl
theorem NH (n:Nat):∀(a b:P F),sz b<=n->mn (euL a b)=gd a b:=by
 induction n with
 | zero =>
  intro a b h;have hb:b=0:=ap.1 (by omega);rw[hb,mC,pa]
 | succ n ih =>
  intro a b h;by_cases hb:b=0
  ·rw[hb,mC,pa]
  ·rw[pc hb,ih _ _ (by have:=(qure (a:=a) hb).2;omega),HL hb]
end
end Alg
namespace Go.AM
open Alg
open Go.Proofs
open Classical
abbrev KP:=Alg.P KQ
noncomputable abbrev ku (p:KP):IV:=kl (Alg.cl p)
def PW (w:Nat) (p:KP):Prop:=∀ i,FB w (p.c i)
theorem eD (w:Nat):FB w 0:=by
 refine⟨0,1,fv (R:=Int) (by decide),?_,?_,?_,?_,?_⟩
 ·rw[cA,oF];rfl
 ·rw[ap.2 rfl];omega
 ·rw[gS];exact Nat.zero_le _
 ·rw[show Alg.sz (1:Alg.P Int)=1 from iH (R:=Int) (by decide)];omega
 ·rw[fQ (n:=1) (by rw[show Alg.sz (1:Alg.P Int)=1 from iH (R:=Int) (by decide)];exact ae _)];show 0+Int.natAbs 1<=_;exact Nat.one_le_two_pow
theorem jD {z:Int} {w:Nat} (h:z.natAbs<=2 ^ w):FB w (kn z):=by
 refine⟨Alg.C z,1,fv (R:=Int) (by decide),?_,?_,?_,?_,?_⟩
 ·rw[oH,oF];rfl
 ·have:Alg.sz (Alg.C z)<=1:=cm fun i hi=>by cases i with|zero=>omega|succ i=>rfl
  omega
 ·rw[fQ (n:=1) (cm fun i hi=>by cases i with|zero=>omega|succ i=>rfl)]
  show 0+Int.natAbs z<=_;omega
 ·rw[show Alg.sz (1:Alg.P Int)=1 from iH (R:=Int) (by decide)];omega
 ·rw[fQ (n:=1) (by rw[show Alg.sz (1:Alg.P Int)=1 from iH (R:=Int) (by decide)];exact ae _)];show 0+Int.natAbs 1<=_;exact Nat.one_le_two_pow
theorem fe:kn 0=0:=by show Alg.em (Alg.C (0:Rat))=0;rw[show Alg.C (0:Rat)=0 from cu];rfl
theorem fp:kn 1=1:=rfl
theorem Nr (a b:Int):kn (a+b)=kn a+kn b:=by
 show Alg.em (Alg.C (((a+b:Int)):Rat))=_;rw[Rat.intCast_add,show Alg.C ((a:Rat)+(b:Rat))=Alg.C (a:Rat)+Alg.C (b:Rat)from Dy _ _,tJ]
theorem Hw (a:Int):kn (-a) = -kn a:=by
 show Alg.em (Alg.C (((-a:Int)):Rat))=_;rw[Rat.intCast_neg,show Alg.C (-(a:Rat)) = -Alg.C (a:Rat)from kC _,Bs]
theorem CP (n:Nat):kn (n:Int)=Alg.nc n:=by
 induction n with
 | zero=>exact fe
 | succ n ih =>
  rw[show((n+1:Nat):Int)=(n:Int)+1 by omega,Nr,ih,fp];rfl
theorem yC {z:Int} (h:z≠0):kn z≠0:=C3 (fv (R:=Rat) (by simpa using h))
theorem PW.mono {w v:Nat} {p:KP} (h:PW w p) (hv:w<=v):PW v p:=fun i=>(h i).mono hv
theorem PW.add {w v:Nat} {p q:KP} (h:PW w p) (h':PW v q):PW (w+v+1) (p+q):=fun i=>(h i).add (h' i)
theorem PW.sub {w v:Nat} {p q:KP} (h:PW w p) (h':PW v q):PW (w+v+1) (p-q):=fun i=>(h i).sub (h' i)
theorem PW.scale {w v:Nat} {p:KP} {c:KQ} (h:PW w p) (h':FB v c):PW (w+v) (p*Alg.C c):=fun i=>by rw[nf];exact(h i).mul h'
theorem PW.fw {w:Nat} {p:KP} (h:PW w p) (hw:w<=1000):∀ f∈Alg.cl p,FW f:=fun f hf=>by
 obtain⟨i,-,rfl⟩:=mI hf;exact(h i).mono hw
theorem fW (l:List KQ):dc l=Alg.cl (Alg.pl l):=by
 have hs:=LU l;have hg:∀ j (h:j<l.length),(Alg.pl l).c j=l[j]:=fun j h=>by simp[qZ,List.getD,h]
 rw[gD hs (fun j hj h=>by rw[<-hg j hj];exact au h) (fun h h0=>by rw[<-hg _ h];exact jJ (by omega))];refine List.ext_getElem (by simp[Alg.cl,hs]) fun i h1 h2=>?_;simp only[List.length_take]at h1;rw[ft,hg i (by omega),List.getElem_take]
theorem Df (p q:KP):zh (Alg.cl p) (Alg.cl q)=Alg.cl (p+q):=by
 have key:∀ p q:KP,Alg.sz q<=Alg.sz p->Alg.pl (j0 (Alg.cl p) (Alg.cl q) (Alg.cl q).length)=p+q:=fun p q h=>Alg.P.ext fun j=>by
  rw[qZ,bK];rcases Nat.lt_or_ge j (Alg.sz p)with hj|hj
  ·simp only[j0,List.getD_eq_getElem?_getD,List.getElem?_map,List.getElem?_range,aD,hj,if_true,Option.map_some,Option.getD_some];simp only[<-List.getD_eq_getElem?_getD,li];split
   ·rfl
   ·rw[au (p:=q) (by omega),add_zero]
  ·rw[au hj,au (p:=q) (by omega),add_zero,List.getD_eq_getElem?_getD,List.getElem?_eq_none (by simp[j0,aD,hj])];rfl
 rw[zh];split
 ·rename_i h;simp only[aD]at h;have:=key q p (by omega);rw[fW,this,add_comm]
 ·rename_i h;simp only[aD]at h;have:=key p q (by omega);rw[fW,this]
theorem ke (p:KP) (c:KQ):dc ((Alg.cl p).map (· * c))=Alg.cl (p*Alg.C c):=by
 rw[fW];congr 1;refine Alg.P.ext fun i=>?_;rw[qZ,nf,<-li p i];simp only[List.getD_eq_getElem?_getD,List.getElem?_map];cases (Alg.cl p)[i]? with
 | none=>exact(zero_mul _).symm
 | some x=>rfl
theorem Lq {p:KP} {c:KQ} {w v:Nat} (hp:PW w p) (hc:FB v c) (hb:w+v<=1000) (hs:Alg.sz p<=1000):Fn Tryz.prog 52 [ku p,iK c] [ku (p*Alg.C c)]:=by
 have:=qs gm (Alg.cl p) c (by rw[aD];omega) (hp.fw (by omega)) (hc.mono (by omega)) (fun f hf=>by
  obtain⟨i,-,rfl⟩:=mI hf;exact((hp i).mul hc).mono hb)
 rwa [ke]at this
theorem KAddP {p q:KP} {w v:Nat} (hp:PW w p) (hq:PW v q) (hb:w+v+1<=1000) (hs:Alg.sz p<=1000) (hs':Alg.sz q<=1000):Fn Tryz.prog 16 [ku p,ku q] [ku (p+q)]:=by
 have:=Du gm (Alg.cl p) (Alg.cl q) (by rw[aD];omega) (by rw[aD];omega) (hp.fw (by omega)) (hq.fw (by omega)) (fun f hf g hg=>by
  obtain⟨i,-,rfl⟩:=mI hf;obtain⟨j,-,rfl⟩:=mI hg;exact((hp i).add (hq j)).mono hb)
 rwa [Df]at this
theorem ki (q:KP):q*Alg.C (kn (-1)) = -q:=by
 rw[show kn (-1) = -(1:KQ)from(Hw 1).trans (by rw[fp]),show Alg.C (-(1:KQ)) = -(1:KP)from kC _,mul_neg,mul_one]
theorem IU {p q:KP} {w v:Nat} (hp:PW w p) (hq:PW v q) (hb:w+v+1<=1000) (hs:Alg.sz p<=1000) (hs':Alg.sz q<=1000):Fn Tryz.prog 50 [ku p,ku q] [ku (p-q)]:=by
 have hn:PW v (-q):=fun i=>(hq i).neg;have:=Lp gm (Alg.cl p) (Alg.cl q) (by rw[aD];omega) (by rw[aD];omega) (hp.fw (by omega)) (hq.fw (by omega)) ((jD (w:=0) (by decide)).mono (by omega))
  (fun f hf=>by
   obtain⟨i,-,rfl⟩:=mI hf;have:=hn i;rw[<-ki,nf]at this;exact this.mono (by omega)) (by
   rw[ke,ki];intro f hf g hg;obtain⟨i,-,rfl⟩:=mI hf;obtain⟨j,-,rfl⟩:=mI hg;exact((hp i).add (hn j)).mono hb) (by rw[ke,ki];exact hn.fw (by omega)) (by rw[ke,ki,aD,kJ];omega)
 rw[ke,ki,Df,<-sub_eq]at this;exact this
theorem rH {p:KP} {w:Nat} (hp:PW w p) (hb:2*w<=1000) (hs:Alg.sz p<=1000):Fn Tryz.prog 53 [ku p] [ku (mn p)]:=by
 by_cases h0:p=0
 ·have:=B3;have e:ku (0:KP)=kl []:=by show kl (Alg.cl 0)=_;rw[pm]
  rw[h0,ng,e];exact this
 ·have hp0:=az h0;have hl:(Alg.cl p)[(Alg.cl p).length-1]'(by rw[aD];omega)=lc p:=by rw[ft,aD];rfl
  have hlw:FB w (Alg.inv (lc p)):=(hp _).inv (bu h0);have h1:(1:Nat)<=2 ^ 0:=ae _;have hc:kn 1*Alg.inv (lc p)=Alg.inv (lc p):=by rw[fp,one_mul]
  have:=FA gm (Alg.cl p) (by rw[aD];omega) (by rw[aD];omega) (Alg.inv (lc p)) (by rw[hl,hc]) (by rw[hl];exact bu h0) (hp.fw (by omega)) ((jD (w:=0) (by decide)).mono (by omega)) (hlw.mono (by omega)) (fun f hf=>by
   obtain⟨i,-,rfl⟩:=mI hf;exact((hp i).mul hlw).mono (by omega))
  rw[ke,mul_comm]at this;exact this
theorem NM (p:KP):mD (Alg.cl p) (Alg.cl p).length=Alg.cl (der p):=by
 refine C9 (fun i hi=>?_) (fun i hi=>?_) (fun h=>?_)
 ·simp only[mD,List.getElem_map,List.getElem_range,li,jt,CP]
 ·simp only[mD,af,List.length_range,aD]at hi;rw[jt,au (by omega),mul_zero]
 ·simp only[mD,af,List.length_range,aD]at h;simp only[mD,List.getElem_map,List.getElem_range,li,af,List.length_range,aD];refine aE (yC (by omega)) ?_;rw[show Alg.sz p-1-1+1=Alg.sz p-1 by omega];exact jJ (by omega)
theorem Mh {p:KP} {w:Nat} (hp:PW w p) (hs:Alg.sz p<=1000):PW (w+10) (der p):=fun i=>by
 rw[jt];rcases Nat.lt_or_ge (i+1) (Alg.sz p)with h|h
 ·have h1:FB 10 (kn ((i+1:Nat):Int)):=jD (by rw[Int.natAbs_natCast];omega);rw[<-CP,Nat.add_comm w];exact h1.mul (hp _)
 ·rw[au h,mul_zero];exact eD _
theorem B4 {p:KP} {w:Nat} (hp:PW w p) (hb:w+10<=1000) (hs:Alg.sz p<=1000):Fn Tryz.prog 17 [ku p] [ku (der p)]:=by
 have:=IY gm (Alg.cl p) (by rw[aD];omega) (hp.fw (by omega)) (fun i hi=>(jD (w:=10) (by
  rw[aD]at hi;rw[Int.natAbs_natCast];omega)).mono (by omega)) (fun i hi=>by
  rw[ft];rw[aD]at hi;have h1:FB 10 (kn (i:Int)):=jD (by rw[Int.natAbs_natCast];omega);exact(h1.mul (hp i)).mono (by omega))
 rwa [NM]at this
noncomputable def tk (p:KP) (n:Nat):KP:=⟨fun j=>if j<n then p.c j else 0,n,fun i hi=>if_neg (by omega)⟩
theorem Ec (p:KP) (n j:Nat):(tk p n).c j=if j<n then p.c j else 0:=rfl
theorem kI (p:KP):tk p 0=0:=Alg.P.ext fun j=>by rw[Ec,if_neg (by omega)];rfl
theorem m5 (p:KP) (n:Nat):tk p (n+1)=tk p n+mon n (p.c n):=Alg.P.ext fun j=>by
 rw[bK,Ec,Ec,bJ];by_cases h:j=n
 ·subst h;rw[if_pos (by omega),if_neg (by omega),if_pos rfl,zero_add]
 ·rw[if_neg h,add_zero];by_cases h':j<n
  ·rw[if_pos (by omega),if_pos h']
  ·rw[if_neg (by omega),if_neg h']
theorem rU {p:KP} {n:Nat} (h:Alg.sz p<=n):tk p n=p:=Alg.P.ext fun j=>by
 rw[Ec];split
 ·rfl
 ·exact(au (by omega)).symm
theorem Oy {p:KP} {w n:Nat} (h:PW w p):PW w (tk p n):=fun j=>by
 rw[Ec];split
 ·exact h j
 ·exact eD w
noncomputable def pp (p q:KP) (i k:Nat):KP:=tk p i*q+mon i (p.c i)*tk q k
theorem CA (p q:KP) (i k:Nat):pp p q i (k+1)=pp p q i k+mon (i+k) (p.c i*q.c k):=by
 rw[pp,pp,m5,mul_add,du,add_assoc]
theorem JM (p q:KP) (i:Nat):pp p q i (Alg.sz q)=pp p q (i+1) 0:=by
 rw[pp,pp,kI,mul_zero,add_zero,m5,add_mul,rU (ae _)]
theorem JL (p q:KP):pp p q 0 0=0:=by rw[pp,kI,kI,zero_mul,mul_zero,add_zero]
theorem Nj (p q:KP):pp p q (Alg.sz p) 0=p*q:=by rw[pp,kI,mul_zero,add_zero,rU (ae _)]
theorem vc {q:KP} {c:KQ} {w v i:Nat} (hc:FB w c) (hq:PW v q):PW (w+v) (mon i c*q):=fun j=>by
 rw[bY];split
 ·exact hc.mul (hq _)
 ·exact eD _
theorem Ch {p q:KP} {w v:Nat} (hp:PW w p) (hq:PW v q):∀ i,PW (i*(w+v+1)) (tk p i*q)
 | 0=>fun j=>by rw[kI,zero_mul];exact eD _
 | i+1=>fun j=>by
  rw[m5,add_mul,bK,Nat.add_mul,Nat.one_mul,<-Nat.add_assoc];exact(Ch hp hq i j).add (vc (hp i) hq j)
theorem OZ {p q:KP} {w v:Nat} (hp:PW w p) (hq:PW v q) (i k:Nat):PW ((i+1)*(w+v+1)) (pp p q i k):=fun j=>by
 rw[pp,bK,Nat.add_mul,Nat.one_mul,<-Nat.add_assoc];exact(Ch hp hq i j).add (vc (hp i) (Oy hq) j)
theorem LW {p q:KP} {w v:Nat} (hp:PW w p) (hq:PW v q):PW (Alg.sz p*(w+v+1)) (p*q):=by
 have:=Ch hp hq (Alg.sz p);rwa [rU (ae _)]at this
noncomputable def dj (n:Nat) (p:KP):List KQ:=(List.range n).map p.c
theorem dF (n:Nat) (p:KP):(dj n p).length=n:=by simp[dj]
theorem kg {n j:Nat} (p:KP) (h:j<n):(dj n p)[j]?=some (p.c j):=by simp[dj,h]
theorem x6 {n j:Nat} (p:KP) (c:KQ):(dj n p).set j (p.c j+c)=dj n (p+mon j c):=by
 refine List.ext_getElem (by simp[dj]) fun i h1 h2=>?_;rw[List.getElem_set];simp only[dj,List.getElem_map,List.getElem_range,bK,bJ];by_cases e:j=i
 ·subst e;rw[if_pos rfl,if_pos rfl]
 ·rw[if_neg e,if_neg (fun e'=>e e'.symm),add_zero]
theorem wi {n:Nat} {p:KP} (h:Alg.sz p=n):dj n p=Alg.cl p:=by rw[dj,Alg.cl,h]
set_option maxHeartbeats 1000000 in
theorem zK {p q:KP} {w v:Nat} (hp:PW w p) (hq:PW v q) (hb:Alg.sz p*(w+v+1)<=1000) (hs:Alg.sz p<=1000) (hs':Alg.sz q<=1000) (hw:w<=1000) (hv:v<=1000):Fn Tryz.prog 14 [ku p,ku q] [ku (p*q)]:=by
 by_cases h0:p=0\/q=0
 ·have e:p*q=0:=by rcases h0 with rfl|rfl;exact zero_mul _;exact mul_zero _
  have eku:ku (0:KP)=kl []:=by show kl (Alg.cl 0)=_;rw[pm]
  rw[e,eku];by_cases hp0:p=0
  ·have e1:decide (((0:Nat):Int)=0)=true:=rfl;rw[hp0,eku];refine ak (fn:=Tryz.f14) (by rfl) rfl rfl rfl (by rfl) ?_;simp -dsimp -implicitDefEqProofs only[go_sem,af,e1];rfl
  ·have e2:decide ((Alg.sz p:Int)=0)=false:=aj (by have:=az hp0;omega);have hq0:q=0:=h0.resolve_left hp0;have e1:decide (((0:Nat):Int)=0)=true:=rfl;rw[hq0,eku];refine ak (fn:=Tryz.f14) (by rfl) rfl rfl rfl (by rfl) ?_;simp -dsimp -implicitDefEqProofs only[go_sem,af,aD,e1,e2];rfl
 ·have hp0:p≠0:=fun h=>h0 (.inl h);have hq0:q≠0:=fun h=>h0 (.inr h);have sp:=az hp0;have sq:=az hq0;obtain⟨n,hn⟩:∃ n,n=Alg.sz p+Alg.sz q-1:=⟨_,rfl⟩;have e1:decide ((Alg.sz p:Int)=0)=false:=aj (by omega);have e2:decide ((Alg.sz q:Int)=0)=false:=aj (by omega);have en:((Alg.sz p+Alg.sz q:Nat):Int)-1=(n:Int):=by omega
  have hrep:=vA (kr (kn 0)) rfl n (by omega) (by omega);have erep:List.replicate n (kr (kn 0))=(dj n (pp p q 0 0)).map kr:=by
   rw[JL,fe];refine List.ext_getElem (by simp[dj]) fun i h1 h2=>?_;simp[dj];rfl
  have eem:(!(List.map kr (dj n (pp p q 0 0))).isEmpty)=true:=by
   rw[dj];obtain⟨m,rfl⟩:∃ m,n=m+1:=⟨n-1,by omega⟩;simp[List.range_succ]
  rw[erep]at hrep;refine ak (fn:=Tryz.f14) (by rfl) rfl rfl rfl (by rfl) ?_;simp -dsimp -implicitDefEqProofs only[go_sem,af,aD,e1,e2];refine an (bX 0 (by decide)) ?_;simp -dsimp -implicitDefEqProofs only[go_sem,af,aD,e1,e2,en]
  repeat(refine And.intro (by omega) ?_)
  refine bQ hrep ?_;simp -dsimp -implicitDefEqProofs only[go_sem,af,aD,eem];refine aS [(6,9),(29,57)] [(7,7),(9,9)] [(26,26)] (fun m τ β ε=>∃ i:Nat,m=Alg.sz p-i/\i<=Alg.sz p/\τ 29 = .i (iN i)/\ε 26=⟨1,2,(dj n (pp p q i 0)).map kr,true,true⟩)
   (fun e τ β ε=>e = .exit 0/\ε 26=⟨1,2,(dj n (p*q)).map kr,true,true⟩) (Alg.sz p) ?_ ?_ ?_
  ·exact⟨0,by omega,by omega,rfl,rfl⟩
  ·rintro m τ β ε π hK hKB hKE ⟨i,hm,hi,h29,h26⟩;have k28:τ 28 = .i (iN (Alg.sz p)):=by rw[hK 28 (by decide)];simp -dsimp -implicitDefEqProofs only[go_sem,af,aD]
   have k27:τ 27 = .i (ku p):=(hK 27 rfl).trans rfl;have k5:τ 5 = .sl 26 1 n:=by rw[hK 5 (by decide)];simp -dsimp -implicitDefEqProofs only[go_sem,af,dF]
   have k1:τ 1 = .i (ku q):=(hK 1 rfl).trans rfl;by_cases hlt:i<Alg.sz p
   ·have hA:(i:Int)<(Alg.sz p:Int):=by omega
    have hg:(Alg.cl p)[i]?=some (p.c i):=by rw[ah (by rw[aD];exact hlt),ft]
    simp -dsimp -implicitDefEqProofs only[go_sem,h29,k28,k27,hA];refine av hg ?_;simp -dsimp -implicitDefEqProofs only[go_sem,h29,k28,k27,hA,k1,af,aD];refine aJ [(8,9),(36,56)] [(9,9)] [(26,26)] (fun m τ β ε=>∃ k:Nat,m=Alg.sz q-k/\k<=Alg.sz q/\τ 36 = .i (iN k)/\ε 26=⟨1,2,(dj n (pp p q i k)).map kr,true,true⟩)
     (fun e τ β ε=>e = .exit 2/\ε 26=⟨1,2,(dj n (pp p q (i+1) 0)).map kr,true,true⟩) (Alg.sz q) ?_ ?_ ?_
    ·exact⟨0,by omega,by omega,rfl,h26⟩
    ·rintro m2 τ2 β2 ε2 π2 hK2 hKB2 hKE2 ⟨k,hm2,hk,h36,h26'⟩;have q35:τ2 35 = .i (iN (Alg.sz q)):=by rw[hK2 35 (by decide)];simp -dsimp -implicitDefEqProofs only[go_sem,af,aD]
     have q34:τ2 34 = .i (ku q):=by rw[hK2 34 (by decide)];simp -dsimp -implicitDefEqProofs only[go_sem,k1]
     have q5:τ2 5 = .sl 26 1 n:=(hK2 5 rfl).trans k5;have q6:τ2 6 = .i (iN i):=by rw[hK2 6 (by decide)];simp -dsimp -implicitDefEqProofs only[go_sem,h29]
     have q7:τ2 7 = .bp 7 ((β 7).gen+1) 0:=(hK2 7 rfl).trans rfl;have b7:β2 7=⟨(β 7).gen+1,kr (p.c i)⟩:=(hKB2 7 rfl).trans rfl;by_cases hlt2:k<Alg.sz q
     ·have hA2:(k:Int)<(Alg.sz q:Int):=by omega
      have hg2:(Alg.cl q)[k]?=some (q.c k):=by rw[ah (by rw[aD];exact hlt2),ft]
      have eik:(i:Int)+(k:Int)=((i+k:Nat):Int):=by omega
      have hg3:=kg (n:=n) (j:=i+k) (pp p q i k) (by omega);have hW:=OZ hp hq i k (i+k);have hW2:=OZ hp hq i (k+1) (i+k);have hwv:w+v<=1000:=by
       have:=Nat.mul_le_mul_right (w+v+1) (show 1<=Alg.sz p by omega);omega
      have hle:(i+1)*(w+v+1)<=1000:=ac (Nat.mul_le_mul_right _ hlt) hb;simp -dsimp -implicitDefEqProofs only[go_sem,h36,q35,q34,hA2];refine av hg2 ?_;simp -dsimp -implicitDefEqProofs only[go_sem,h36,q35,q34,hA2];refine ao (by rfl) 15 [] false true (by rfl) (by rfl) (by decide +kernel) ?_;simp -dsimp -implicitDefEqProofs only[go_sem,h36,q35,q34,hA2,q5,q6,q7,b7,h26',eik]
      repeat(refine And.intro (by omega) ?_)
      refine av hg3 ?_;simp -dsimp -implicitDefEqProofs only[go_sem,h36,q35,q34,hA2,q5,q6,q7,b7,h26',eik];refine aa (jC gm ((hp i).mono hw) ((hq k).mono hv) (((hp i).mul (hq k)).mono hwv)) rfl ?_;simp -dsimp -implicitDefEqProofs only[go_sem,h36,q35,q34,hA2,q5,q6,q7,b7,h26',eik];have hsum:FW ((pp p q i k).c (i+k)+p.c i*q.c k):=by
       rw[CA,bK,bJ,if_pos rfl]at hW2;exact hW2.mono hle
      refine aa (zP gm (hW.mono hle) (((hp i).mul (hq k)).mono hwv) hsum) rfl ?_;simp -dsimp -implicitDefEqProofs only[go_sem,h36,q35,q34,hA2,q5,q6,q7,b7,h26',eik];refine⟨by omega,av hg3 ?_⟩;simp -dsimp -implicitDefEqProofs only[go_sem,h36]
      repeat(refine And.intro (by omega) ?_)
      refine again (Alg.sz q-(k+1)) (by omega) ⟨(by(repeat apply am rfl);exact hK2),(by(repeat apply am rfl);exact hKB2),(by(repeat apply am rfl);exact hKE2),k+1,rfl,by omega,rfl,?_⟩
      simp -dsimp -implicitDefEqProofs only[go_sem,h26'];rw[CA,<-x6,List.map_set];rfl
     ·have hA2:¬ (k:Int)<(Alg.sz q:Int):=by omega
      obtain rfl:k=Alg.sz q:=by omega
      simp -dsimp -implicitDefEqProofs only[go_sem,h36,q35,hA2];exact⟨(by(repeat apply am rfl);exact hK2),hKB2,hKE2,by rw[h26',JM]⟩
    ·rintro e τ2 β2 ε2 π2 hK2 hKB2 hKE2 ⟨rfl,h26'⟩;have q29:τ2 29 = .i (iN i):=(hK2 29 rfl).trans h29;have kO:=Kp.step2 hK hK2 (by intro n;simp[inR]<;>omega) (by(repeat apply am rfl);exact hK)
     have kB:=Kp.step2 hKB hKB2 (by intro n;simp[inR]<;>omega) (by(repeat apply am rfl);exact hKB)
     have kE:=Kp.step2 hKE hKE2 (by intro n;simp[inR]) hKE;simp -dsimp -implicitDefEqProofs only[go_sem,q29]
     repeat(refine And.intro (by omega) ?_)
     refine again (Alg.sz p-(i+1)) (by omega) ⟨(by(repeat apply am rfl);exact kO),kB,kE,i+1,rfl,by omega,rfl,h26'⟩
   ·have hA:¬ (i:Int)<(Alg.sz p:Int):=by omega
    obtain rfl:i=Alg.sz p:=by omega
    simp -dsimp -implicitDefEqProofs only[go_sem,h29,k28,hA];exact⟨(by(repeat apply am rfl);exact hK),hKB,hKE,by rw[h26,Nj]⟩
  ·rintro e τ β ε π hK hKB hKE ⟨rfl,h26⟩;have k5:τ 5 = .sl 26 1 n:=by rw[hK 5 (by decide)];simp -dsimp -implicitDefEqProofs only[go_sem,af,dF]
   refine⟨_,aY.freeze _ 26,?_⟩;simp -dsimp -implicitDefEqProofs only[go_sem,k5,h26];have hsz:Alg.sz (p*q)=n:=by rw[cO hp0 hq0,hn]
   rw[List.take_of_length_le (by simp[dF]),wi hsz]
theorem f7:ku (0:KP)=kl []:=by show kl (Alg.cl 0)=_;rw[pm]
def wD (w v:Nat):Nat->Nat
 | 0=>w
 | n+1=>2*wD w v n+2*v+1
theorem jG (w v:Nat):∀{m n:Nat},m<=n->wD w v m<=wD w v n:=by
 intro m n h
 induction n with
 | zero=>rw[Nat.le_zero.1 h];exact ae _
 | succ n ih =>
  rcases Nat.lt_or_ge n m with h1|h1
  ·rw[show m=n+1 by omega];exact ae _
  ·have:=ih h1;simp only[wD];omega
theorem Cs {n:Nat} {p:KP} (h:Alg.sz p<=n):dc (dj n p)=Alg.cl p:=by
 rw[fW];congr 1;refine Alg.P.ext fun i=>?_;rw[qZ,List.getD_eq_getElem?_getD];rcases Nat.lt_or_ge i n with hi|hi
 ·rw[kg p hi];rfl
 ·rw[List.getElem?_eq_none (by rw[dF];exact hi),au (by omega)];rfl
theorem Eo {n j:Nat} {p p':KP} {x:KQ} (h:∀ i,i≠j->p'.c i=p.c i) (hx:p'.c j=x):(dj n p).set j x=dj n p':=by
 refine List.ext_getElem (by simp[dj]) fun i h1 h2=>?_;rw[List.getElem_set];simp only[dj,List.getElem_map,List.getElem_range];by_cases e:j=i
 ·subst e;rw[if_pos rfl,hx]
 ·rw[if_neg e,h i fun e'=>e e'.symm]
theorem pF (p:KP):Fn Tryz.prog 18 [ku p,ku 0] [ku 0,ku 0,iN 3]:=by
 have e1:decide (((0:Nat):Int)=0)=true:=rfl;rw[f7];refine ak (fn:=Tryz.f18) (by rfl) rfl rfl rfl (by rfl) ?_;simp -dsimp -implicitDefEqProofs only[go_sem,af,e1];rfl
theorem xi {p q:KP} {v:Nat} (hq0:q≠0) (hlt:Alg.sz p<Alg.sz q) (hq:PW v q) (hv:v<=1000) (hs:Alg.sz p<=1000) (hs':Alg.sz q<=1000):Fn Tryz.prog 18 [ku p,ku q] [ku 0,ku p,iN 0]:=by
 have e1:decide ((Alg.sz q:Int)=0)=false:=aj (by omega);have sq:=az hq0;have hlast:(Alg.cl q)[Alg.sz q-1]?=some (lc q):=by rw[ah (by rw[aD];omega),ft];rfl
 have el:(Alg.sz q:Int)-1=((Alg.sz q-1:Nat):Int):=by omega
 rw[f7];refine ak (fn:=Tryz.f18) (by rfl) rfl rfl rfl (by rfl) ?_;simp -dsimp -implicitDefEqProofs only[go_sem,af,aD,e1];refine bQ (oy ((Alg.cl p).map kr) (rx _) (by simp[aD];omega)) ?_;simp -dsimp -implicitDefEqProofs only[go_sem,af,aD];refine an (bX 0 (by decide)) ?_;simp -dsimp -implicitDefEqProofs only[go_sem,af,aD]
 repeat(refine And.intro (by omega) ?_)
 rw[show max (0:Int) ((Alg.sz p:Int)-(Alg.sz q:Int)+1)=0 by omega];refine bQ (BT (kr (kn 0))) ?_;simp -dsimp -implicitDefEqProofs only[go_sem,af,aD];refine ao (by rfl) 12 [9] false true (by rfl) (by rfl) (by decide +kernel) ?_;simp -dsimp -implicitDefEqProofs only[go_sem];refine an (bX 1 (by decide)) ?_;simp -dsimp -implicitDefEqProofs only[go_sem,af,aD,el]
 repeat(refine And.intro (by omega) ?_)
 refine av hlast ?_;simp -dsimp -implicitDefEqProofs only[go_sem];have hl0:=bu hq0;have hlw:FB v (Alg.inv (lc q)):=(hq _).inv hl0;have hc:kn 1*Alg.inv (lc q)=Alg.inv (lc q):=by rw[fp,one_mul]
 refine ar (args':=[iK (kn 1),iK (lc q)]) rfl (uy gm ((jD (w:=0) (by decide)).mono (by omega)) ((hq _).mono hv) hl0 (by rw[hc];exact hlw.mono hv)) ?_;rw[hc];simp -dsimp -implicitDefEqProofs only[go_sem];refine ar (args':=[iK (Alg.inv (lc q)),iN 0]) rfl (pE _ 0) ?_;simp -dsimp -implicitDefEqProofs only[go_sem];refine⟨by decide,?_⟩;refine aS [(10,12),(42,84)] [(12,12)] [] (fun m τ β ε=>m=0/\τ 10 = .i (iN (-1))) (fun e τ β ε=>e = .exit 0) 0 ?_ ?_ ?_
 ·exact⟨rfl,rfl⟩
 ·rintro m τ β ε π hK hKB hKE ⟨rfl,h10⟩;have hA:decide ((0:Int) <= -1)=false:=rfl;simp -dsimp -implicitDefEqProofs only[go_sem,h10,hA];exact⟨(by(repeat apply am rfl);exact hK),hKB,hKE⟩
 ·rintro e τ β ε π hK hKB hKE rfl;have k8:τ 8 = .sl 27 1 0:=(hK 8 rfl).trans rfl;have k7:τ 7 = .sl 17 1 (Alg.sz p):=by rw[hK 7 (by decide)];simp -dsimp -implicitDefEqProofs only[go_sem,af,aD]
  have r27:ε 27=⟨1,2,[],false,true⟩:=by rw[hKE 27 (by decide)];simp -dsimp -implicitDefEqProofs only[go_sem];rfl
  have r17:∃ m,ε 17=⟨1,2,(Alg.cl p).map kr,m,true⟩:=⟨_,by rw[hKE 17 (by decide)];simp -dsimp -implicitDefEqProofs only[go_sem];rfl⟩;obtain⟨mm,r17⟩:=r17;refine⟨_,aY.refl _,?_⟩;simp -dsimp -implicitDefEqProofs only[go_sem,k8,k7,r27,r17];refine aa (jB [] (by simp)) rfl ?_;simp -dsimp -implicitDefEqProofs only[go_sem,k7,r17];refine ar (args':=[kl (Alg.cl p)]) ?_ (jB (Alg.cl p) (by rw[aD];omega)) ?_
  ·rw[List.take_of_length_le (by simp[aD])]
  have e5:dc (Alg.cl p)=Alg.cl p:=by rw[fW,GL]
  rw[e5];simp -dsimp -implicitDefEqProofs only[go_sem];rfl
structure DvS (p q:KP) (w v n r:Nat) (Q R:KP):Prop where
 eq:p=Q*q+R
 szR:Alg.sz R<=r+Alg.sz q-1
 szQ:Alg.sz Q<=n
 low:∀ j,j<r->Q.c j=0
 w:PW (wD w v (n-r)) R
set_option maxHeartbeats 2000000 in
theorem xh {p q:KP} {w v n:Nat} (hq0:q≠0) (hle:Alg.sz q<=Alg.sz p) (hn:n=Alg.sz p-Alg.sz q+1) (hp:PW w p) (hq:PW v q) (hb:wD w v n<=1000) (hs:Alg.sz p<=1000) (hs':Alg.sz q<=1000):Fn Tryz.prog 18 [ku p,ku q] [ku (qu p q),ku (Alg.re p q),iN 0]:=by
 have e1:decide ((Alg.sz q:Int)=0)=false:=aj (by have:=az hq0;omega);have sq:=az hq0;have hw:w<=1000:=ac (jG w v (Nat.zero_le n)) hb;have hv1:2*v+1<=1000:=by
  have:=jG w v (show 1<=n by omega);simp only[wD]at this;omega
 have hlast:(Alg.cl q)[Alg.sz q-1]?=some (lc q):=by rw[ah (by rw[aD];omega),ft];rfl
 have el:(Alg.sz q:Int)-1=((Alg.sz q-1:Nat):Int):=by omega
 have hrep:=vA (kr (kn 0)) rfl n (by omega) (by omega);have erep:List.replicate n (kr (kn 0))=(dj n (0:KP)).map kr:=by
  rw[fe];refine List.ext_getElem (by simp[dj]) fun i h1 h2=>?_;simp[dj];rfl
 have eem:∀(m:Nat) (r:KP),0<m->(!(List.map kr (dj m r)).isEmpty)=true:=by
  intro m r hm;obtain⟨m,rfl⟩:∃ m',m=m'+1:=⟨m-1,by omega⟩;simp[dj,List.range_succ]
 have eem2:(!(List.map kr (Alg.cl p)).isEmpty)=true:=by rw[<-wi rfl];exact eem _ _ (by omega)
 rw[erep]at hrep;have hl0:=bu hq0;have hlw:FB v (Alg.inv (lc q)):=(hq _).inv hl0;have hc:kn 1*Alg.inv (lc q)=Alg.inv (lc q):=by rw[fp,one_mul]
 refine ak (fn:=Tryz.f18) (by rfl) rfl rfl rfl (by rfl) ?_;simp -dsimp -implicitDefEqProofs only[go_sem,af,aD,e1];refine bQ (oy ((Alg.cl p).map kr) (rx _) (by simp[aD];omega)) ?_;simp -dsimp -implicitDefEqProofs only[go_sem,af,aD];refine an (bX 0 (by decide)) ?_;simp -dsimp -implicitDefEqProofs only[go_sem,af,aD]
 repeat(refine And.intro (by omega) ?_)
 rw[show max (0:Int) ((Alg.sz p:Int)-(Alg.sz q:Int)+1)=(n:Int)by omega];refine bQ hrep ?_;simp -dsimp -implicitDefEqProofs only[go_sem,af,aD,dF];refine ao (by rfl) 12 [9] false true (by rfl) (by rfl) (by decide +kernel) ?_;simp -dsimp -implicitDefEqProofs only[go_sem];refine an (bX 1 (by decide)) ?_;simp -dsimp -implicitDefEqProofs only[go_sem,af,aD,el]
 repeat(refine And.intro (by omega) ?_)
 refine av hlast ?_;simp -dsimp -implicitDefEqProofs only[go_sem];refine ar (args':=[iK (kn 1),iK (lc q)]) rfl (uy gm ((jD (w:=0) (by decide)).mono (by omega)) ((hq _).mono (by omega)) hl0 (by rw[hc];exact hlw.mono (by omega))) ?_;rw[hc];simp -dsimp -implicitDefEqProofs only[go_sem];refine ar (args':=[iK (Alg.inv (lc q)),iN 0]) rfl (pE _ 0) ?_;simp -dsimp -implicitDefEqProofs only[go_sem,dF,af]
 repeat(refine And.intro (by omega) ?_)
 refine aS [(10,12),(42,84)] [(12,12)] [(17,17),(27,27)] (fun m τ β ε=>∃(r:Nat) (Q R:KP),m=r/\r<=n/\τ 10 = .i (iN ((r:Int)-1))/\DvS p q w v n r Q R/\ε 17=⟨1,2,(dj (Alg.sz p) R).map kr,true,true⟩/\ε 27=⟨1,2,(dj n Q).map kr,true,true⟩)
  (fun e τ β ε=>e = .exit 0/\∃ Q R:KP,DvS p q w v n 0 Q R/\ε 17=⟨1,2,(dj (Alg.sz p) R).map kr,true,true⟩/\ε 27=⟨1,2,(dj n Q).map kr,true,true⟩) n ?_ ?_ ?_
 ·refine⟨n,0,p,rfl,ae _,by simp -dsimp -implicitDefEqProofs only[go_sem,dF,af],⟨by rw[zero_mul,zero_add],by omega,by rw[ap.2 rfl];omega,fun _ _=>rfl,by rw[Nat.sub_self];exact hp⟩,?_,?_⟩
  ·simp -dsimp -implicitDefEqProofs only[go_sem];rw[eem2,wi rfl]
  ·simp -dsimp -implicitDefEqProofs only[go_sem];rw[eem n 0 (by omega)]
 ·rintro m τ β ε π hK hKB hKE ⟨r,Q,R,rfl,hr,h10,hD,h17,h27⟩;have k8:τ 8 = .sl 27 1 n:=by rw[hK 8 (by decide)];simp -dsimp -implicitDefEqProofs only[go_sem,dF,af]
  have k7:τ 7 = .sl 17 1 (Alg.sz p):=by rw[hK 7 (by decide)];simp -dsimp -implicitDefEqProofs only[go_sem,af,aD]
  have k9:τ 9 = .bp 9 1 0:=(hK 9 rfl).trans rfl;have b9:β 9=⟨1,kr (Alg.inv (lc q))⟩:=(hKB 9 rfl).trans rfl;have k1:τ 1 = .i (ku q):=(hK 1 rfl).trans rfl;cases m with
  | zero =>
   have hA:decide ((0:Int)<=((0:Nat):Int)-1)=false:=rfl;simp -dsimp -implicitDefEqProofs only[go_sem,h10,hA];exact⟨(by(repeat apply am rfl);exact hK),hKB,hKE,Q,R,hD,h17,h27⟩
  | succ i =>
   have er:((i+1:Nat):Int)-1=(i:Int):=by omega
   rw[er]at h10;have hA:decide ((0:Int)<=(i:Int))=true:=ai (by omega);have ei:((i+Alg.sz q:Nat):Int)-1=((i+Alg.sz q-1:Nat):Int):=by omega
   have hg:=kg (n:=Alg.sz p) (j:=i+Alg.sz q-1) R (by omega);obtain⟨W,hW⟩:∃ W,W=wD w v (n-(i+1)):=⟨_,rfl⟩;have hWn:2*W+2*v+1<=1000:=by
    have h1:=jG w v (show n-(i+1)+1<=n by omega);simp only[wD]at h1;omega
   have hRw:=hD.w;rw[<-hW]at hRw;obtain⟨c,hcd⟩:∃ c,c=R.c (i+Alg.sz q-1)*Alg.inv (lc q):=⟨_,rfl⟩;have hcw:FB (W+v) c:=by rw[hcd];exact(hRw _).mul hlw
   simp -dsimp -implicitDefEqProofs only[go_sem,h10,hA];refine ao (by rfl) 13 [] false true (by rfl) (by rfl) (by decide +kernel) ?_;simp -dsimp -implicitDefEqProofs only[go_sem,h10,k8,k7,k9,b9,k1,h17,h27,af,aD,ei]
   repeat(refine And.intro (by omega) ?_)
   refine av hg ?_;simp -dsimp -implicitDefEqProofs only[go_sem,h10,k8,k7,k9,b9,k1,h17,h27];refine ar (args':=[iK (R.c (i+Alg.sz q-1)),iK (Alg.inv (lc q))]) rfl (jC gm ((hRw _).mono (by omega)) (hlw.mono (by omega)) (by rw[<-hcd];exact hcw.mono (by omega))) ?_;rw[<-hcd];have hgq:=kg (n:=n) (j:=i) Q (by omega);simp -dsimp -implicitDefEqProofs only[go_sem,h10,k8,k7,k9,b9,k1,h17,h27];refine⟨by omega,av hgq ?_⟩;simp -dsimp -implicitDefEqProofs only[go_sem,h10,k8,k7,k9,b9,k1,h17,h27,af,aD];have hQ0:Q.c i=0:=hD.low i (by omega);obtain⟨Q',hQ'⟩:∃ Q',Q'=Q+mon i c:=⟨_,rfl⟩;have eQ:(dj n Q).set i c=dj n Q':=by
    rw[hQ',<-x6,hQ0,zero_add]
   have hQc:Q'.c i=c:=by rw[hQ',bK,bJ,if_pos rfl,hQ0,zero_add]
   have eset:∀ x,((dj n Q).map kr).set i (kr x)=((dj n Q).set i x).map kr:=fun x=>by rw[List.map_set]
   refine aJ [(11,12),(61,84)] [(12,12)] [(17,17)] (fun m τ β ε=>∃ k:Nat,m=Alg.sz q-k/\k<=Alg.sz q/\τ 61 = .i (iN k)/\ε 17=⟨1,2,(dj (Alg.sz p) (R-mon i c*tk q k)).map kr,true,true⟩)
    (fun e τ β ε=>e = .exit 2/\ε 17=⟨1,2,(dj (Alg.sz p) (R-mon i c*q)).map kr,true,true⟩) (Alg.sz q) ?_ ?_ ?_
   ·exact⟨0,by omega,by omega,rfl,by simp -dsimp -implicitDefEqProofs only[go_sem,h17];rw[kI,mul_zero,sub_zero]⟩
   ·rintro m2 τ2 β2 ε2 π2 hK2 hKB2 hKE2 ⟨k,hm2,hk,h61,h17'⟩;have q60:τ2 60 = .i (iN (Alg.sz q)):=by rw[hK2 60 (by decide)];simp -dsimp -implicitDefEqProofs only[go_sem,af,aD]
    have q59:τ2 59 = .i (ku q):=by rw[hK2 59 (by decide)];simp -dsimp -implicitDefEqProofs only[go_sem,k1]
    have q7:τ2 7 = .sl 17 1 (Alg.sz p):=(hK2 7 rfl).trans k7;have q8:τ2 8 = .sl 27 1 n:=(hK2 8 rfl).trans k8;have q10:τ2 10 = .i (iN i):=(hK2 10 rfl).trans h10;have q27:ε2 27=⟨1,2,(dj n Q').map kr,true,true⟩:=by
     rw[hKE2 27 (by decide)];simp -dsimp -implicitDefEqProofs only[go_sem];rw[<-eQ,List.map_set];rfl
    by_cases hlt2:k<Alg.sz q
    ·have hA2:(k:Int)<(Alg.sz q:Int):=by omega
     have hg2:(Alg.cl q)[k]?=some (q.c k):=by rw[ah (by rw[aD];exact hlt2),ft]
     have eik:(i:Int)+(k:Int)=((i+k:Nat):Int):=by omega
     have hg3:=kg (n:=Alg.sz p) (j:=i+k) (R-mon i c*tk q k) (by omega);have hg4:=kg (n:=n) (j:=i) Q' (by omega);have hPw:∀ k,PW (2*W+2*v+1) (R-mon i c*tk q k):=fun k=>(hRw.sub (vc hcw (Oy hq))).mono (by omega);have hcq:FB (W+v+v) (c*q.c k):=hcw.mul (hq k);have estep:(R-mon i c*tk q k).c (i+k)-c*q.c k=(R-mon i c*tk q (k+1)).c (i+k):=by
      rw[m5,mul_add,du,iu,iu,bK,bJ,if_pos rfl];exact ring [R.c (i+k),(mon i c*tk q k).c (i+k),c,q.c k]
     simp -dsimp -implicitDefEqProofs only[go_sem,h61,q60,q59,hA2];refine av hg2 ?_;simp -dsimp -implicitDefEqProofs only[go_sem,h61,q60,q59,hA2];refine ao (by rfl) 18 [] false true (by rfl) (by rfl) (by decide +kernel) ?_;simp -dsimp -implicitDefEqProofs only[go_sem,h61,q60,q59,hA2,q7,q8,q10,h17',q27,eik]
     repeat(refine And.intro (by omega) ?_)
     refine av hg3 ?_;simp -dsimp -implicitDefEqProofs only[go_sem,h61,q60,q59,hA2,q7,q8,q10,h17',q27,eik];refine⟨by omega,av hg4 ?_⟩;simp -dsimp -implicitDefEqProofs only[go_sem,h61,q60,q59,hA2,q7,q8,q10,h17',q27,eik];refine ar (args':=[iK (Q'.c i),iK (q.c k)]) rfl (jC gm (by rw[hQc];exact hcw.mono (by omega)) ((hq _).mono (by omega)) (by rw[hQc];exact hcq.mono (by omega))) ?_;rw[hQc];simp -dsimp -implicitDefEqProofs only[go_sem,h61,q60,q59,hA2,q7,q8,q10,h17',q27,eik];refine ar (args':=[iK ((R-mon i c*tk q k).c (i+k)),iK (c*q.c k)]) rfl (I8 gm ((hPw k _).mono hWn) (hcq.mono (by omega)) (by rw[estep];exact(hPw (k+1) _).mono hWn)) ?_;rw[estep];simp -dsimp -implicitDefEqProofs only[go_sem,h61,q60,q59,hA2,q7,q8,q10,h17',q27,eik];refine⟨by omega,av hg3 ?_⟩;simp -dsimp -implicitDefEqProofs only[go_sem,h61]
     repeat(refine And.intro (by omega) ?_)
     refine again (Alg.sz q-(k+1)) (by omega) ⟨(by(repeat apply am rfl);exact hK2),(by(repeat apply am rfl);exact hKB2),(by(repeat apply am rfl);exact hKE2),k+1,rfl,by omega,rfl,?_⟩
     simp -dsimp -implicitDefEqProofs only[go_sem,h17'];have e6:(dj (Alg.sz p) (R-mon i c*tk q k)).set (i+k) ((R-mon i c*tk q (k+1)).c (i+k))=dj (Alg.sz p) (R-mon i c*tk q (k+1)):=by
      refine Eo (fun j hj=>?_) rfl;rw[m5,mul_add,du,iu,iu,bK,bJ,if_neg hj,add_zero]
     rw[<-e6,List.map_set];rfl
    ·have hA2:¬ (k:Int)<(Alg.sz q:Int):=by omega
     obtain rfl:k=Alg.sz q:=by omega
     simp -dsimp -implicitDefEqProofs only[go_sem,h61,q60,hA2];exact⟨(by(repeat apply am rfl);exact hK2),hKB2,hKE2,by rw[h17',rU (ae _)]⟩
   ·rintro e τ2 β2 ε2 π2 hK2 hKB2 hKE2 ⟨rfl,h17'⟩;have q10:τ2 10 = .i (iN i):=(hK2 10 rfl).trans h10;have q27:ε2 27=⟨1,2,(dj n Q').map kr,true,true⟩:=by
     rw[hKE2 27 (by decide)];simp -dsimp -implicitDefEqProofs only[go_sem];rw[<-eQ,List.map_set];rfl
    have kO:=Kp.step2 hK hK2 (by intro n;simp[inR]<;>omega) (by(repeat apply am rfl);exact hK)
    have kB:=Kp.step2 hKB hKB2 (by intro n;simp[inR]<;>omega) hKB;have kE:=Kp.step2 hKE hKE2 (by intro n;simp[inR]<;>omega) (by(repeat apply am rfl);exact hKE)
    simp -dsimp -implicitDefEqProofs only[go_sem,q10]
    repeat(refine And.intro (by omega) ?_)
    refine again i (by omega) ⟨(by(repeat apply am rfl);exact kO),kB,kE,i,Q',R-mon i c*q,rfl,by omega,rfl,?_,h17',q27⟩
    refine⟨?_,?_,?_,fun j hj=>?_,?_⟩
    ·rw[hQ',add_mul];exact lc1 1 hD.eq (ring [p,Q,q,R,mon i c])
    ·refine cm fun j hj=>?_;rw[iu,bY,if_pos (by omega)];by_cases ej:j=i+Alg.sz q-1
     ·subst ej;rw[show i+Alg.sz q-1-i=Alg.sz q-1 by omega,hcd,mul_assoc];show _-_*(_*lc q)=0;rw[cx hl0,mul_one,sub_self]
     ·have:=hD.szR;rw[au (by omega:Alg.sz R<=j),au (p:=q) (by omega),mul_zero,sub_self]
    ·rw[hQ'];refine cT hD.szQ (cm fun j hj=>?_);rw[bJ,if_neg (by omega)]
    ·rw[hQ',bK,bJ,if_neg (by omega),hD.low j (by omega),add_zero]
    ·rw[show n-i=n-(i+1)+1 by omega];simp only[wD];rw[<-hW];exact(hRw.sub (vc hcw hq)).mono (by omega)
 ·rintro e τ β ε π hK hKB hKE ⟨rfl,Q,R,hD,h17,h27⟩;have k8:τ 8 = .sl 27 1 n:=by rw[hK 8 (by decide)];simp -dsimp -implicitDefEqProofs only[go_sem,dF,af]
  have k7:τ 7 = .sl 17 1 (Alg.sz p):=by rw[hK 7 (by decide)];simp -dsimp -implicitDefEqProofs only[go_sem,af,aD]
  have hszR:=hD.szR;obtain⟨eQ,eR⟩:=kM hD.eq (by omega);refine⟨_,aY.refl _,?_⟩;simp -dsimp -implicitDefEqProofs only[go_sem,k8,k7,h17,h27];rw[List.take_of_length_le (by simp[dF])];refine aa (jB (dj n Q) (by rw[dF];omega)) rfl ?_;rw[Cs hD.szQ];simp -dsimp -implicitDefEqProofs only[go_sem,k8,k7,h17,h27];rw[List.take_of_length_le (by simp[dF])];refine aa (jB (dj (Alg.sz p) R) (by rw[dF];omega)) rfl ?_;rw[Cs (by omega)];simp -dsimp -implicitDefEqProofs only[go_sem,eQ,eR]
theorem DvS.step {p q:KP} {w v n i:Nat} {Q R:KP} (hD:DvS p q w v n (i+1) Q R) (hi:i+1<=n) (hn:n=Alg.sz p+1-Alg.sz q) (hq0:q≠0) (hq:PW v q) :
  DvS p q w v n i (Q+mon i (R.c (i+Alg.sz q-1)*Alg.inv (lc q))) (R-mon i (R.c (i+Alg.sz q-1)*Alg.inv (lc q))*q):=by
 have sq:=az hq0;have hl0:=bu hq0;have hlw:FB v (Alg.inv (lc q)):=(hq _).inv hl0;have hcw:FB (wD w v (n-(i+1))+v) (R.c (i+Alg.sz q-1)*Alg.inv (lc q)):=(hD.w _).mul hlw;refine⟨?_,?_,?_,fun j hj=>?_,?_⟩
 ·rw[add_mul];exact lc1 1 hD.eq (ring [p,Q,q,R,mon i (R.c (i+Alg.sz q-1)*Alg.inv (lc q))])
 ·refine cm fun j hj=>?_;rw[iu,bY,if_pos (by omega)];by_cases ej:j=i+Alg.sz q-1
  ·subst ej;rw[show i+Alg.sz q-1-i=Alg.sz q-1 by omega,mul_assoc];show _-_*(_*lc q)=0;rw[cx hl0,mul_one,sub_self]
  ·have:=hD.szR;rw[au (by omega:Alg.sz R<=j),au (p:=q) (by omega),mul_zero,sub_self]
 ·refine cT hD.szQ (cm fun j hj=>?_);rw[bJ,if_neg (by omega)]
 ·rw[bK,bJ,if_neg (by omega),hD.low j (by omega),add_zero]
 ·rw[show n-i=n-(i+1)+1 by omega];simp only[wD];exact(hD.w.sub (vc hcw hq)).mono (by omega)
theorem NK {p q:KP} {w v n:Nat} (hn:n=Alg.sz p+1-Alg.sz q) (hle:Alg.sz q<=Alg.sz p) (hq0:q≠0) (hp:PW w p) (hq:PW v q):∀ s,s<=n->∃ Q R:KP,DvS p q w v n (n-s) Q R/\PW (wD w v s) Q:=by
 have sq:=az hq0;intro s
 induction s with
 | zero=>exact fun _=>⟨0,p,⟨by rw[zero_mul,zero_add],by omega,by rw[ap.2 rfl];omega,fun _ _=>rfl,by rw[Nat.sub_zero,Nat.sub_self];exact hp⟩,fun i=>eD _⟩
 | succ s ih =>
  intro hs;obtain⟨Q,R,hD,hQ⟩:=ih (by omega);have e:n-s=(n-(s+1))+1:=by omega
  rw[e]at hD;refine⟨_,_,hD.step (by omega) hn hq0 hq,fun j=>?_⟩;rw[bK,bJ];split
  ·rename_i ej;rw[hD.low j (by omega),zero_add];have hw:=hD.w (n-(s+1)+Alg.sz q-1);rw[show n-(n-(s+1)+1)=s by omega]at hw;refine(hw.mul ((hq _).inv (bu hq0))).mono ?_;simp only[wD];omega
  ·rw[add_zero];exact(hQ j).mono (jG w v (by omega))
theorem tM {p q:KP} (h:Alg.sz p<Alg.sz q):qu p q=0/\Alg.re p q=p:=kM (by rw[zero_mul,zero_add]) h
theorem Pt {p q:KP} {w v:Nat} (hq0:q≠0) (hp:PW w p) (hq:PW v q):PW (wD w v (Alg.sz p+1-Alg.sz q)) (qu p q)/\PW (wD w v (Alg.sz p+1-Alg.sz q)) (Alg.re p q)/\Alg.sz (qu p q)<=Alg.sz p+1-Alg.sz q/\Alg.sz (Alg.re p q)<Alg.sz q:=by
 have sq:=az hq0;refine⟨?_,?_,?_,(qure hq0).2⟩
 all_goals
  rcases Nat.lt_or_ge (Alg.sz p) (Alg.sz q)with h|h
  ·obtain⟨h1,h2⟩:=tM h
   first
   | (rw[h1];exact fun i=>eD _)
   | (rw[h2];exact hp.mono (jG w v (Nat.zero_le _)))
   | (rw[h1,ap.2 rfl];omega)
  ·obtain⟨Q,R,hD,hQ⟩:=NK rfl h hq0 hp hq (Alg.sz p+1-Alg.sz q) (ae _);rw[Nat.sub_self]at hD;have hszR:=hD.szR;obtain⟨eQ,eR⟩:=kM hD.eq (by omega)
   first
   | (rw[eQ];exact hQ)
   | (rw[eR];exact hD.w)
   | (rw[eQ];exact hD.szQ)
theorem mU {p q:KP} {w v:Nat} (hq0:q≠0) (hp:PW w p) (hq:PW v q) (hb:wD w v (Alg.sz p+1-Alg.sz q)<=1000) (hv:v<=1000) (hs:Alg.sz p<=1000) (hs':Alg.sz q<=1000):Fn Tryz.prog 18 [ku p,ku q] [ku (qu p q),ku (Alg.re p q),iN 0]:=by
 rcases Nat.lt_or_ge (Alg.sz p) (Alg.sz q)with h|h
 ·obtain⟨h1,h2⟩:=tM h;rw[h1,h2];exact xi hq0 h hq hv hs hs'
 ·exact xh hq0 h (by omega) hp hq hb hs hs'
theorem Oi {p q:KP} {w v:Nat} (hq0:q≠0) (hp:PW w p) (hq:PW v q) (hb:wD w v (Alg.sz p+1-Alg.sz q)<=1000) (hv:v<=1000) (hs:Alg.sz p<=1000) (hs':Alg.sz q<=1000):Fn Tryz.prog 81 [ku p,ku q] [ku (qu p q)]:=IX (mU hq0 hp hq hb hv hs hs')
theorem KReP {p q:KP} {w v:Nat} (hq0:q≠0) (hp:PW w p) (hq:PW v q) (hb:wD w v (Alg.sz p+1-Alg.sz q)<=1000) (hv:v<=1000) (hs:Alg.sz p<=1000) (hs':Alg.sz q<=1000):Fn Tryz.prog 82 [ku p,ku q] [ku (Alg.re p q)]:=Ls (mU hq0 hp hq hb hv hs hs')
end Go.AM
