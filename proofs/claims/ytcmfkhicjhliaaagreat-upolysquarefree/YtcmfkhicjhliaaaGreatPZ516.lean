/- Lemmas, part 17 of 23. No condition. -/
import Derived.Test.YtcmfkhicjhliaaaGreatPZ515
set_option maxRecDepth 65536
set_option linter.unusedSimpArgs false
set_option linter.unusedVariables false
set_option linter.unusedSectionVars false
namespace Go.AM
section
variable {P:Program} {kind:FuncId->CK} {st:St} {Q:bg->St->Prop} {K:St->Prop}
theorem WP.semAt (kind:FuncId->CK) {id:Nat} {ops:List Oper} (n:Nat) {o:Oper} (hn:ops[n]?=some o) (hg:o.guard=none) (hnd:∀ c,o.op ≠ .defer c)
  (h:WsF P kind ops (ops.take n) (fun s=>qy P o s (WsF P kind ops (ops.drop (n+1)) (Q .normal))) st):WP P (.region id ops.toArray false) Q st:=by
 intro ρ W0 M0 N G w a S hd;refine wpIn_region ?_;have hnl:n<ops.length:=(List.getElem?_eq_some_iff.1 hn).1;have hN:=dW hd;have hsz:List.range ops.toArray.size=List.range' 0 (ops.take n).length++n::List.range' (n+1) (ops.drop (n+1)).length:=by
  rw[List.range_eq_range',List.length_take,List.length_drop,List.size_toArray,Nat.min_eq_left aw];have e1:ops.length=n+(ops.length-n):=aw;have e2:ops.length-n=(ops.length-(n+1))+1:=aw
  conv=>lhs;rw[e1,<-List.range'_append_1,Nat.zero_add,e2,List.range'_succ]
 rw[hsz];refine mG hN _ (ops.take n) 0 (fun i hi=>?_) S (dm (ops:=ops.toArray) h) ?_
 ·rw[List.length_take]at hi;rw[List.getElem?_take,if_pos aw];simp
 rintro a1 u1 ⟨s1,G1,hs,S1⟩;have hno:ops.toArray[n]?=some o:=by simpa using hn
 rw[wpOpsIn_cons];simp only[wpOpIn,hno];have hgd:gd ops.toArray s1 o=some true:=by simp[gd,hg]
 rw[gX S1 hgd];simp only[if_true];refine cn hnd (Oper.wp_mono ?_ (hs W0 M0 N G1 u1 a1 _ S1 (hN n o hno)));rintro a' w' ⟨st',G',hK,hS⟩;refine fL hN (ops.drop (n+1)) (n+1) (fun i=>by simp) hS (dm (ops:=ops.toArray) hK) ?_;rintro a2 u2 ⟨s2,G2,h2,S2⟩;exact⟨.normal,s2,G2,rfl,h2,S2⟩
theorem zW {o:Oper} {T:TypeId} {x y:Operand} {te:TI} {z:List C} (ho:o.op = .makeSlice T x y) (hte:fE P T=some te) (hz:te.zero=some z) (hx:lH (st.ev x) 0) (hy:lH (st.ev y) 0) (hK:K (st.put o.dst (.fl []))):qy P o st K:=by
 intro W0 M0 N G w a Q S hd;obtain⟨e,ie,de,hT,hie,_,rfl⟩:=gD hte;dsimp only at hz;obtain⟨zv,hzv,rfl,hzr⟩:=oW hz;obtain⟨k1,hx⟩:=kH (S.ev x) hx;obtain⟨k2,hy⟩:=kH (S.ev y) hy;have hrun:=run_make (P:=P) w T e ie zv hT hie hzv k1 k2 0 0 aw aw aw aw;refine bF (y := .slice (some ⟨w.heap.size,0,none⟩) 0 0) (w':=w.alloc (.cells (madeCells zv.cells (0*ie.size)) e)) ?_ ?_
 ·replace hrun:(Instr.makeSlice T (.int k1 0) (.int k2 0)).run P w = .ok (.slice (some ⟨w.heap.size,0,none⟩) 0 0) (w.alloc (.cells (madeCells zv.cells (0*ie.size)) e)):=hrun
  simp[execOp,ho,hx,hy,hrun]
 ·exact⟨_,G,hK,S.put hd ((bq.refl _ _).alloc (ay _) _) fun _=>⟨_,0,rfl,rfl,.inl rfl⟩⟩
theorem Az {dst:Option Tmp} {x y:Operand} {T U:TypeId} {xs:List (List C)} {te:TI} (hx:st.ev x = .fl []) (hy:st.rows (st.ev y)=some xs) (hte:fE P T=some te)
  (hK:K (St.put st dst (sc (.int .i64 0)))):il P kind none dst K st (.call ⟨.builtin .copy,#[x,y],#[T,U]⟩) ⟨⟩:=by
 refine⟨rfl,fun o ho hdst=>⟨by simp[eO,ho],?_⟩⟩;intro W0 M0 N G w a Q S hd;obtain⟨e,ie,de,hT,hie,_,rfl⟩:=gD hte;have hv:=S.ev x;rw[hx]at hv;obtain⟨q,len,hxv,hl,-⟩:=hv;simp only[List.length_nil]at hl;subst hl;obtain⟨p,cap,hyv,hcap,hyr⟩:=nq S (S.ev y) hy;have hexec:(execOp a.eval o).run P w = .ok (.value (goInt (Nat.min xs.length 0))) w:=by
  have e0:Nat.min xs.length 0=0:=Nat.min_zero _;rw[e0];have hf:(Builtin.firstCells ie.size 0 (.slice p xs.length cap)).run P w = .ok #[] w:=by
   cases p<;>simp[Builtin.firstCells,loadCells,loadCellsFrom]
  have hs:∀ ad:Addr,(storeCells ad []).run P w = .ok () w:=fun ad=>rfl;cases q<;>simp[execOp,ho,resolve,invoke,builtin,hxv,hyv,Builtin.copy_,run_underlying hT,Builtin.lenOf,sizeOf,typeInfo,hie,hf,hs]
 refine bF hexec ?_;refine⟨_,G,?_,S.put (v:=sc (.int .i64 0)) hd (bq.refl _ _) fun _=>?_⟩
 ·rw[hdst];exact hK
 ·have e0:Nat.min xs.length 0=0:=Nat.min_zero _;rw[e0];exact t6 rfl
end
section
variable {P:Program} {kind:FuncId->CK} {st:St} {Q:bg->St->Prop}
theorem WP.any (kind:FuncId->CK) (hm:P.follows .mixedOrders=true) {id:Nat} {ops:List Oper} (J:(Nat->Bool)->St->Prop) (he:(List.range ops.length).all (fun i=>((ops[i]?).map fun o=>o.after.all fun e => !Region.binds .any e || decide (e.on<i)).getD true)=true)
  (h0:J (fun _=>false) st)
  (step:∀(F:Nat->Bool) (s:St) (i:Nat) (o:Oper),J F s->ops[i]?=some o->F i=false->dX ops F i->(∀ j,F j=true->dX ops F j) ->
   ∃ t,gd ops.toArray s o=some t/\(t=true->AOp P kind none o (fun s'=>J (fun j=>F j || j == i) s') s)/\(t=false->J (fun j=>F j || j == i) (s.put o.dst (.tup []))))
  (fin:∀ F s,J F s->(∀ j,j<ops.length->F j=true)->Q .normal s):WP P (.region id ops.toArray true) Q st:=by
 intro ρ W0 M0 N G w a S hd;have hN:=dW hd;refine wpIn_region_any hm ?_;have d1:∀ i o,ops[i]?=some o->∀ e∈o.after,Region.binds .any e=true->e.on<i:=by
  intro i o ho e hem hb;have hi:i<ops.length:=(List.getElem?_eq_some_iff.1 ho).1;have:=(List.all_eq_true.1 he) i (List.mem_range.2 hi);simp only[ho,Option.map_some,Option.getD_some,Array.all_eq_true_iff_forall_mem]at this;have:=this e hem;simp[hb]at this;exact this
 have hsize:ops.toArray.size=ops.length:=au;have hready:∀(listed:Array Bool),listed.size=ops.toArray.size->Region.ready .any ops.toArray listed=[]->∀ j,j<ops.toArray.size->listed.getD j false=true:=by
  intro listed hsz hr j
  induction j using Nat.strongRecOn with
  | _ j ih =>
   intro hj;cases hF:listed.getD j false with
   | true=>rfl
   | false =>
    exfalso;have:j∈Region.ready .any ops.toArray listed:=by
     refine mem_ready.2 ⟨?_,ops.toArray[j],au,?_⟩
     ·rw[Array.getD_eq_getD_getElem?]at hF ⊢;have h1:j<listed.size:=aw;simp only[Array.getElem?_eq_getElem h1,Option.getD_some]at hF ⊢;exact hF
     ·intro e hem hb;have hlt:=d1 j ops[j] au e (by simpa using hem) hb;exact ih e.on hlt aw
    rw[hr]at this;simp at this
 have main:∀(fuel:Nat) (listed:Array Bool) (a:Act) (w:World),listed.size=ops.toArray.size->(List.range ops.toArray.size).countP (fun j => !listed.getD j false)<=fuel ->
   (∀ j,listed.getD j false=true->dX ops (fun j=>listed.getD j false) j)->(∃ s G,J (fun j=>listed.getD j false) s/\Sim W0 M0 N s G w a) ->
   wpAnyIn (fen ρ) 0 P .any ops.toArray (fun e a' w'=>∃ x st' G',bz e=some x/\Q x st'/\Sim W0 M0 N st' G' w' a') fuel listed a w:=by
  intro fuel
  induction fuel with
  | zero =>
   intro listed a w hsz hc hcl ⟨s,G,hJ,S⟩;have hall:∀ j,j<ops.toArray.size->listed.getD j false=true:=by
    intro j hj;have h0:(List.range ops.toArray.size).countP (fun j => !listed.getD j false)=0:=aw;have:=(List.countP_eq_zero.1 h0) j (List.mem_range.2 hj);simpa using this
   refine⟨?_,⟨.normal,s,G,rfl,fin _ s hJ (fun j hj=>hall j aw),S⟩⟩;cases hr:Region.ready .any ops.toArray listed with
   | nil=>rfl
   | cons j l =>
    have hj:j∈Region.ready .any ops.toArray listed:=by rw[hr];simp
    obtain⟨h1,o,ho,_⟩:=mem_ready.1 hj;have hjs:j<ops.toArray.size:=(Array.getElem?_eq_some_iff.1 ho).1;have h2:=hall j hjs;rw[Array.getD_eq_getD_getElem?]at h1 h2;have h3:j<listed.size:=aw;simp only[Array.getElem?_eq_getElem h3,Option.getD_some]at h1 h2;rw[h1]at h2;simp at h2
  | succ fuel ih =>
   intro listed a w hsz hc hcl ⟨s,G,hJ,S⟩;refine⟨fun hr=>⟨.normal,s,G,rfl,fin _ s hJ (fun j hj=>hready listed hsz hr j aw),S⟩,?_⟩;intro i hi;obtain⟨h1,o,ho,hee⟩:=mem_ready.1 hi;have hlt:i<ops.toArray.size:=(Array.getElem?_eq_some_iff.1 ho).1;have h3:i<listed.size:=aw;have hFi:listed.getD i false=false:=by
    rw[Array.getD_eq_getD_getElem?]at h1 ⊢;simp only[Array.getElem?_eq_getElem h3,Option.getD_some]at h1 ⊢;exact h1
   have hei:dX ops (fun j=>listed.getD j false) i:=by
    intro o' ho' e he' hb;have:o'=o:=by
     have h4:ops[i]?=some o:=by simpa using ho
     rw[h4]at ho';exact(Option.some.inj ho').symm
    subst this;exact hee e he' hb
   have hF':(fun j=>(listed.setIfInBounds i true).getD j false)=fun j=>listed.getD j false || j == i:=by
    funext j;by_cases e:j=i
    ·subst e;simp[h3]
    ·rw[getD_set_ne false (Ne.symm e)];have:(j == i)=false:=by simp[e]
     simp[this]
   have hnext:∀ a' w',(∃ s G,J (fun j=>listed.getD j false || j == i) s/\Sim W0 M0 N s G w' a')->wpAnyIn (fen ρ) 0 P .any ops.toArray (fun e a' w'=>∃ x st' G',bz e=some x/\Q x st'/\Sim W0 M0 N st' G' w' a') fuel (listed.setIfInBounds i true) a' w':=by
    intro a' w' hI';refine ih _ a' w' (by simp at hsz ⊢;exact hsz) ?_ ?_ (by rw[hF'];exact hI')
    ·have:=oz (p:=fun j => !listed.getD j false) (q:=fun j => !(listed.setIfInBounds i true).getD j false) (i:=i) ?_ (by simp[hFi]) (by simp[h3]) (List.mem_range.2 hlt)
     ·omega
     ·intro j hj;cases hh:listed.getD j false with
      | false=>rfl
      | true=>rw[getD_set_true hh]at hj;simp at hj
    ·intro j hj o' ho' e he' hb;have hj':(listed.getD j false || j == i)=true:=by rw[<-congrFun hF' j];exact hj
     refine getD_set_true ?_;simp only[Bool.or_eq_true,beq_iff_eq]at hj';rcases hj' with hj'|hj'
     ·exact hcl j hj' o' ho' e he' hb
     ·subst hj';exact hei o' ho' e he' hb
   have hoi:ops[i]?=some o:=by simpa using ho
   obtain⟨t,hg,ht,hf⟩:=step _ s i o hJ hoi hFi hei hcl;simp only[wpOpIn,ho];rw[gX S hg];cases t with
   | true =>
    simp only[if_true];refine cn (pG (ht rfl)) (Oper.wp_mono ?_ (iG (Q:=_) S (hN i o ho) (ht rfl)));rintro a' w' ⟨st',G',hK,hS⟩;exact hnext a' w' ⟨st',G',hK,hS⟩
   | false =>
    simp only[Bool.false_eq_true,if_false];exact⟨fun _ _=>trivial,hnext _ _ ⟨_,G,hf rfl,jV S (hN i o ho)⟩⟩
 refine main _ _ _ _ au ?_ ?_ ⟨st,G,?_,S.drew⟩
 ·exact ax List.countP_le_length au
 ·intro j hj;rw[cj]at hj;simp at hj
 ·have:(fun j=>(Array.replicate ops.toArray.size false).getD j false)=fun _=>false:=by
   funext j;exact cj _ _
  rw[this];exact h0
theorem Fi {K:St->Prop} {ops:List Oper} (hm:P.follows .mixedOrders=true) (J:(Nat->Bool)->St->Prop) (he:(List.range ops.length).all (fun i=>((ops[i]?).map fun o=>o.after.all fun e => !Region.binds .any e || decide (e.on<i)).getD true)=true)
  (h0:J (fun _=>false) st)
  (step:∀(F:Nat->Bool) (s:St) (i:Nat) (o:Oper),J F s->ops[i]?=some o->F i=false->dX ops F i->(∀ j,F j=true->dX ops F j)->o.guard=none/\W P kind none o.dst (fun s'=>J (fun j=>F j || j == i) s') s o.op)
  (fin:∀ F s,J F s->(∀ j,j<ops.length->F j=true)->K s):tE P kind ops K st ⟨⟩ :=
 .inr fun _ _ hQ=>WP.any kind hm J he h0 (fun F s i o h1 h2 h3 h4 h5=>by
  obtain⟨h6,h7⟩:=step F s i o h1 h2 h3 h4 h5;exact⟨true,by simp[gd,h6],fun _=>oD h7,fun h=>nomatch h⟩) fun F s h1 h2=>hQ s (fin F s h1 h2)
theorem WP.seq_kk {x y:Code} (kind:FuncId->CK) (h:∀ K:bg->St->Prop,(∀ s,WP P y Q s->K .normal s)->(∀ e s,e ≠ .normal->Q e s->K e s)->CW P kind x K st):WP P (.seq x y) Q st:=by
 refine WP.seq (bQ x (h (jl (WP P y Q) Q) (fun _ h=>h) fun e s hne h=>?_));cases e with
 | normal=>exact(hne rfl).elim
 | exit id=>exact h
 | ret=>exact h
end
end Go.AM
namespace Go.AM
open Go.Proofs
open Classical
abbrev iW (n:Int):IV := .c (.v (.int .u64 n))
theorem Fu (P:Program) (T:TypeId) (x y:Operand) (k':IntKind) (a:Int) (K:Value->Prop):fp P .and T x y (.int .u64 a) (.int k' 4294967295) K=(.u64=k'/\K (.int .u64 (a % 4294967296))):=by
 rw[tH,mZ];refine congrArg (fun n=>(IntKind.u64=k'/\K (.int .u64 n))) ?_;show((BitVec.ofInt 64 a &&& BitVec.ofInt 64 4294967295).toNat:Int) % _=_;rw[BitVec.toNat_and,BitVec.toNat_ofInt,BitVec.toNat_ofInt];have e1:((4294967295:Int) % (2 ^ 64:Nat)).toNat=2 ^ 32-1:=aH;rw[e1,Nat.and_two_pow_sub_one_eq_mod];omega
attribute [go_sem ↓ 10000] Fu
theorem Kr (n:Nat) (h:n<4294967296):Fn Tryz.prog 145 [iW 1,iW n] [iW 0,iW n]:=by
 have e1:(n:Int) % 4294967296=n:=aw;have e2:(n:Int)/4294967296=0:=aw;have e3:(n:Int) % 18446744073709551616=n:=aw;refine aJ (fn:=Tryz.f145) ?_;simp -dsimp only[go_sem,e1,e2,e3,Int.reduceMod,Int.reduceDiv,Int.one_mul,Int.zero_mul,Int.mul_zero,Int.add_zero,Int.zero_add]
theorem vD (n:Nat) (h:n<4294967296):Fn Tryz.prog 104 [iW 1,iW n] [iW 0,iW n]:=by
 refine aJ (fn:=Tryz.f104) ?_;simp -dsimp only[go_sem];refine aK (Kr n h) ?_;simp -dsimp only[go_sem]
theorem x8:fE Tryz.prog 25=some ⟨true,2,48,some [C.lst [],C.lst []],none,none,[(0,42),(1,42)]⟩:=av
def H6 (τ0:Nat->AV) (β:Nat->BX) (ε0 ε1:Nat->EN) (π:Nat->MP) (vals:List AV) (v8 v8':AV) (F:Nat->Bool) (s:St):Prop :=
 (∀ i v,vals[i]?=some v->F i=true->s.t (38+i)=v)/\Kp [(8,8),(34,46)] τ0 s.t/\(F 9=false->s.t 8=v8)/\(F 9=true->s.t 8=v8')/\s.b=β/\s.p=π/\s.e=if F 7=true then ε1 else ε0
theorem v7 {τ0:Nat->AV} {β:Nat->BX} {ε0 ε1:Nat->EN} {π:Nat->MP} {vals:List AV} {v8 v8':AV} {F:Nat->Bool} {τ:Nat->AV} {ε:Nat->EN} {ε':Nat->EN} {i:Nat} {v:AV} (h:H6 τ0 β ε0 ε1 π vals v8 v8' F ⟨τ,β,ε,π⟩)
  (hi:i<9) (hv:vals[i]?=some v) (hF9:F 9=false) (he:ε'=if(F 7 || 7 == i)=true then ε1 else ε0):H6 τ0 β ε0 ε1 π vals v8 v8' (fun j=>F j || j == i) ⟨upd τ (38+i) v,β,ε',π⟩:=by
 obtain⟨h1,h2,h3,h4,h5,h6,h7⟩:=h;refine⟨fun j u hj hF=>?_,?_,fun _=>?_,fun h=>?_,rfl,rfl,he⟩
 ·by_cases e:j=i
  ·subst e;rw[hv]at hj;cases hj;exact aN _ _ _
  ·have:(38+j)≠38+i:=aw;simp only[aT _ _ this];refine h1 j u hj ?_;have e':(j == i)=false:=by simp[e]
   simpa [e']using hF
 ·show Kp _ τ0 (upd τ (38+i) v);rw[uC _ _ _ _ _ (by simp[inR];omega)];exact h2
 ·show upd τ (38+i) v 8=v8;rw[aT _ _ aw];exact h3 hF9
 ·have e':(9 == i)=false:=by simp;omega
  simp[e',hF9]at h
theorem fH {τ0:Nat->AV} {β:Nat->BX} {ε0 ε1:Nat->EN} {π:Nat->MP} {vals:List AV} {v8 v8':AV} {F:Nat->Bool} {τ:Nat->AV} {ε:Nat->EN} (i:Nat) {v:AV} (h:H6 τ0 β ε0 ε1 π vals v8 v8' F ⟨τ,β,ε,π⟩)
  (hi:i<9) (h7:i≠7) (hv:vals[i]?=some v) (hF9:F 9=false):H6 τ0 β ε0 ε1 π vals v8 v8' (fun j=>F j || j == i) ⟨upd τ (38+i) v,β,ε,π⟩ :=
 v7 h hi hv hF9 (by
  have e:(7 == i)=false:=by simp;omega
  rw[e,Bool.or_false];exact h.2.2.2.2.2.2)
theorem wZ (r:List C) (hr:r.length=2) (n:Nat) (hn0:0<n) (hn:n<=1048576):FnM Tryz.prog 62 [.c (.lst [r]),iN n] 2 (List.replicate n r):=by
 have e1:decide ((n:Int)<0)=false:=aG aw;have e2:(n:Int) % 18446744073709551616=n:=aw;have e3:decide ((9223372036854775807:Int)<(n:Int))=false:=aG aw;refine rS kd (fn:=Tryz.f62) av rfl rfl rfl av au av ?_;simp -dsimp only[go_sem,e1,e2];refine ao (vD n aw) rfl ?_;have e0:decide ((0:Int)<0)=false:=rfl;have e4:IntKind.wrap .i64 (n:Int)=n:=by
  simp only[IntKind.wrap,IntKind.bits,IntKind.signed,Bool.true_and,Nat.reduceSub,Int.reducePow];split<;>rename_i h4<;>simp only[decide_eq_true_eq,ge_iff_le]at h4<;>omega
 simp -dsimp only[go_sem,e0,e3,e4,Int.toNat_natCast]
 repeat(refine And.intro aw ?_)
 refine nf (t:=30) (g:=1) (len:=n) (xs:=[r]) rfl rfl aH rfl rfl x8 rfl (by simpa using hr) ?_;have em:min [r].length n=1:=by simp;omega
 rw[em];simp -dsimp only[go_sem];refine bt [(8,8),(34,46)] [] [(30,30)] (fun k τ β ε=>∃ m:Nat,k=n-m/\1<=m/\m<=n/\τ 8 = .i (iN m)/\ε 30=⟨1,2,List.replicate m r++List.replicate (n-m) [C.lst [],C.lst []],true,true⟩)
  (fun e τ β ε=>e = .exit 0/\ε 30=⟨1,2,List.replicate n r,true,true⟩) (n-1) ?_ ?_ ?_
 ·refine⟨1,?_,aw,aw,rfl,?_⟩
  ·rfl
  ·simp -dsimp only[go_sem];simp
 ·rintro k τ β ε π hK hKB hKE ⟨m,hk,hm1,hm,h8,h30⟩;have k7:τ 7 = .sl 30 1 n:=(hK 7 rfl).trans rfl;by_cases hlt:m<n
  ·have hA:(m:Int)<(n:Int):=aw;have hm0:¬ m=0:=aw;simp -dsimp only[go_sem,h8,k7,h30,hA];obtain⟨ε1,hε1⟩:∃ x:Nat->EN,x=upd ε 30 ⟨1,2,List.replicate (m+min m (n-m)) r++List.replicate (n-(m+min m (n-m))) [C.lst [],C.lst []],true,true⟩:=⟨_,rfl⟩;obtain⟨q,hq⟩:∃ q:Nat,q=min m (n-m):=⟨_,rfl⟩;obtain⟨vals,hvals⟩:∃ vals:List AV,vals=[.i (iN m),.sl 30 1 n,.i (iN m),.sub 30 1 m (n-m) 2,.sl 30 1 n,.i (iN m),.sl 30 1 m,.i (iN q),.i (iN ((m+q:Nat):Int))]:=⟨_,rfl⟩;refine Fi av (H6 τ β ε ε1 π vals (.i (iN m)) (.i (iN ((m+q:Nat):Int)))) aE ?_ ?_ ?_
   ·exact⟨fun _ _ _ h=>(nomatch h),(by repeat(first|exact Kp.refl _ _|refine Ea rfl ?_)),fun _=>h8,fun h=>(nomatch h),rfl,rfl,rfl⟩
   ·rintro F ⟨τ2,β2,ε2,π2⟩ i o hJ ho hFi hE hcl;obtain⟨h1,h2,h3,h4,h5,h6,h7⟩:=id hJ;dsimp only at h1 h2 h3 h4 h5 h6 h7;subst h5 h6;have h9:F 9=true->∀ i,i<9->F i=true:=fun h i hi=>by
     have hE9:=hcl 9 h _ rfl;obtain rfl|rfl|rfl|rfl|rfl|rfl|rfl|rfl|rfl:i=0\/i=1\/i=2\/i=3\/i=4\/i=5\/i=6\/i=7\/i=8:=aw
     all_goals exact hE9 ⟨_,.phase⟩ au rfl
    have k7':τ2 7 = .sl 30 1 n:=by rw[h2 7 aH];exact k7
    have hF9:i<9->F 9=false:=fun hi=>by
     cases h:F 9 with
     | false=>rfl
     | true=>rw[h9 h i hi]at hFi;cases hFi
    have e30:(ε2 30).gen=1/\(ε2 30).rs.length=n:=by
     rw[h7];split
     ·rw[hε1,aN];exact⟨rfl,ar⟩
     ·rw[h30];exact⟨rfl,ar⟩
    match i,ho with
    | 0,ho =>
     cases ho;refine⟨rfl,?_⟩;simp -dsimp only[go_sem,h3 (hF9 aw)];exact fH 0 hJ aH aH (by rw[hvals];rfl) (hF9 aw)
    | 1,ho =>
     cases ho;refine⟨rfl,?_⟩;simp -dsimp only[go_sem,k7'];exact fH 1 hJ aH aH (by rw[hvals];rfl) (hF9 aw)
    | 2,ho =>
     cases ho;refine⟨rfl,?_⟩;simp -dsimp only[go_sem,h3 (hF9 aw)];exact fH 2 hJ aH aH (by rw[hvals];rfl) (hF9 aw)
    | 3,ho =>
     cases ho;have t39:τ2 39 = .sl 30 1 n:=h1 1 _ (by rw[hvals];rfl) (hE _ rfl ⟨1,.data⟩ au rfl);have t40:τ2 40 = .i (iN m):=h1 2 _ (by rw[hvals];rfl) (hE _ rfl ⟨2,.data⟩ au rfl);refine⟨rfl,?_⟩;simp -dsimp only[go_sem,t39,t40,hm0,e30.1,Int.toNat_natCast];exact⟨hm,hlt,fH 3 hJ aH aH (by rw[hvals];rfl) (hF9 aw)⟩
    | 4,ho =>
     cases ho;refine⟨rfl,?_⟩;simp -dsimp only[go_sem,k7'];exact fH 4 hJ aH aH (by rw[hvals];rfl) (hF9 aw)
    | 5,ho =>
     cases ho;refine⟨rfl,?_⟩;simp -dsimp only[go_sem,h3 (hF9 aw)];exact fH 5 hJ aH aH (by rw[hvals];rfl) (hF9 aw)
    | 6,ho =>
     cases ho;have t42:τ2 42 = .sl 30 1 n:=h1 4 _ (by rw[hvals];rfl) (hE _ rfl ⟨4,.data⟩ au rfl);have t43:τ2 43 = .i (iN m):=h1 5 _ (by rw[hvals];rfl) (hE _ rfl ⟨5,.data⟩ au rfl);refine⟨rfl,?_⟩;simp -dsimp only[go_sem,t42,t43,e30.1,Int.toNat_natCast];exact⟨hm,fH 6 hJ aH aH (by rw[hvals];rfl) (hF9 aw)⟩
    | 7,ho =>
     cases ho;have t41:τ2 41 = .sub 30 1 m (n-m) 2:=h1 3 _ (by rw[hvals];rfl) (hE _ rfl ⟨3,.data⟩ au rfl);have t44:τ2 44 = .sl 30 1 m:=h1 6 _ (by rw[hvals];rfl) (hE _ rfl ⟨6,.data⟩ au rfl);rw[hFi]at h7;simp only[Bool.false_eq_true,if_false]at h7;subst h7;refine⟨rfl,?_⟩;simp -dsimp only[go_sem];have hxs:(List.replicate m r++List.replicate (n-m) [C.lst [],C.lst []]).take m=List.replicate m r:=by
      rw[List.take_left' au]
     refine Ay (t:=30) (g:=1) (lo:=m) (len:=n-m) (sz:=2) (xs:=List.replicate m r) (by simp -dsimp only[go_sem,t41]) (by simp -dsimp only[go_sem,h30]) aH (by simp -dsimp only[go_sem,h30]) (by simp -dsimp only[go_sem,t44,h30];rw[hxs]) x8 (by simp -dsimp only[go_sem,h30]) (by simp -dsimp only[go_sem,h30]) (fun x hx=>by rw[List.eq_of_mem_replicate hx];exact hr) ?_ ?_ ?_
     ·simp -dsimp only[go_sem,h30];intro x hx;rcases List.mem_append.1 hx with hx|hx
      ·rw[List.eq_of_mem_replicate hx];exact hr
      ·rw[List.eq_of_mem_replicate hx];rfl
     ·simp -dsimp only[go_sem,h30];simp<;>omega
     ·simp -dsimp only[go_sem,h30];refine v7 (i:=7) hJ aH ?_ (hF9 aw) ?_
      ·rw[hvals,List.length_replicate,hq];rfl
      ·have e7:(F 7 || 7 == 7)=true:=au;rw[if_pos e7,hε1,List.length_replicate,List.take_left' au,List.drop_append];congr 2;have e8:min (min m (n-m)) m=min m (n-m):=aw;have e9:m-(m+min m (n-m))=0:=aw;have e10:n-m-(m+min m (n-m)-m)=n-(m+min m (n-m)):=aw;simp only[List.take_replicate,List.drop_replicate,List.length_replicate,e8,e9,e10,List.replicate_zero,List.nil_append,List.replicate_append_replicate]
    | 8,ho =>
     cases ho;have t38:τ2 38 = .i (iN m):=h1 0 _ (by rw[hvals];rfl) (hE _ rfl ⟨0,.data⟩ au rfl);have t45:τ2 45 = .i (iN q):=h1 7 _ (by rw[hvals];rfl) (hE _ rfl ⟨7,.data⟩ au rfl);refine⟨rfl,?_⟩;simp -dsimp only[go_sem,t38,t45]
     repeat(refine And.intro aw ?_)
     exact fH 8 hJ aH aH (by rw[hvals];rfl) (hF9 aw)
    | 9,ho =>
     cases ho;have hall:∀ i,i<9->F i=true:=fun i hi=>by
      have hE9:=hE _ rfl;obtain rfl|rfl|rfl|rfl|rfl|rfl|rfl|rfl|rfl:i=0\/i=1\/i=2\/i=3\/i=4\/i=5\/i=6\/i=7\/i=8:=aw
      all_goals exact hE9 ⟨_,.phase⟩ au rfl
     have t46:τ2 46 = .i (iN ((m+q:Nat):Int)):=h1 8 _ (by rw[hvals];rfl) (hall 8 aw);refine⟨rfl,?_⟩;simp -dsimp only[go_sem,t46];refine⟨fun j u hj hF=>?_,?_,fun h=>?_,fun _=>?_,rfl,rfl,?_⟩
     ·have hj9:j<9:=by
       have:=(List.getElem?_eq_some_iff.1 hj).1;rw[hvals]at this;simpa using this
      show upd τ2 8 _ (38+j)=u;rw[aT _ _ aw];exact h1 j u hj (hall j hj9)
     ·show Kp _ τ (upd τ2 8 _);rw[uC _ _ _ _ _ aH];exact h2
     ·simp at h
     ·show upd τ2 8 _ 8=_;exact aN _ _ _
     ·show ε2=_;rw[h7,if_pos (hall 7 aw),if_pos (by show(F 7 || 7 == 9)=true;rw[hall 7 aw];rfl)]
    | i+10,ho=>simp at ho
   ·rintro F ⟨τ2,β2,ε2,π2⟩ ⟨h1,h2,h3,h4,h5,h6,h7⟩ hall;dsimp only at h1 h2 h3 h4 h5 h6 h7;subst h5 h6;rw[hall 7 au]at h7;simp only[if_true]at h7;have t8:=h4 (hall 9 au);have k7':τ2 7 = .sl 30 1 n:=by rw[h2 7 aH];exact k7
    simp -dsimp only[go_sem];refine again (n-(m+q)) aw ⟨?_,hKB,?_,m+q,rfl,aw,aw,t8,?_⟩
    ·exact Kp.step h2 (fun _ h=>h) hK
    ·rw[h7,hε1,uC _ _ _ _ _ aH];exact hKE
    ·rw[h7,hε1,aN,hq]
  ·have hA:¬ (m:Int)<(n:Int):=aw;obtain rfl:m=n:=aw;simp -dsimp only[go_sem,h8,k7,h30,hA];exact⟨(aA hK),hKB,hKE⟩
 ·rintro e τ β ε π hK hKB hKE ⟨rfl,h30⟩;have k7:τ 7 = .sl 30 1 n:=(hK 7 rfl).trans rfl;refine⟨_,bA.refl _,?_⟩;simp -dsimp only[go_sem,k7,h30];refine⟨30,1,by rw[List.length_replicate],aw,?_⟩;have e5:(!(List.replicate n r).isEmpty)=true:=by
   cases n with
   | zero=>omega
   | succ n=>rfl
  rw[h30,e5]
theorem De (r:List C):FnM Tryz.prog 62 [.c (.lst [r]),iN 0] 2 []:=by
 have e0:decide ((0:Int)<0)=false:=rfl;have e3:decide ((9223372036854775807:Int)<((0:Nat):Int))=false:=rfl;refine jO (P:=Tryz.prog) (fn:=Tryz.f62) av rfl av au av ?_;refine WP.seq_kk kd fun K hK _=>?_;simp -dsimp only[go_sem];refine hK _ ?_;refine WP.seq_kk kd fun K hK _=>?_;simp -dsimp only[go_sem,e0];refine hK _ ?_;refine WP.seq_kk kd fun K hK _=>?_;simp -dsimp only[go_sem];refine ao (vD 0 aw) rfl ?_;simp -dsimp only[go_sem];refine hK _ ?_;refine WP.seq_kk kd fun K hK _=>?_;simp -dsimp only[go_sem,e0,e3];refine hK _ ?_;refine WP.seq ?_;refine WP.semAt kd 2 rfl rfl (by intro c h;cases h) ?_;simp -dsimp only[go_sem];refine zW rfl x8 rfl ?_ ?_ ?_
 ·refine⟨.i64,?_⟩;simp -dsimp only[go_sem];rfl
 ·refine⟨.i64,?_⟩;simp -dsimp only[go_sem];rfl
 ·simp -dsimp only[go_sem];refine WP.end_k kd fun K hK=>?_;simp -dsimp only[go_sem];refine Az (xs:=[r]) rfl rfl x8 ?_;simp -dsimp only[go_sem];refine a8 [(8,8),(34,46)] [] [] (fun k τ β ε=>k=0/\τ 8 = .i (iN 0)) (fun e τ β ε=>e = .exit 0) 0 ⟨rfl,rfl⟩ ?_ ?_
  ·rintro k τ β ε π hK hKB hKE ⟨rfl,h8⟩;have k7:τ 7 = .fl []:=(hK 7 rfl).trans rfl;have hA:decide ((0:Int)<((0:Nat):Int))=false:=rfl;simp -dsimp only[go_sem,h8,k7,hA];exact⟨(aA hK),hKB,hKE⟩
  ·rintro e τ β ε π hKp hKB hKE rfl;have k7:τ 7 = .fl []:=(hKp 7 rfl).trans rfl;simp -dsimp only[go_sem,k7];refine hK _ _ ⟨.inr rfl,4,rfl,.inl ⟨rfl,rfl⟩⟩
end Go.AM
namespace Alg
open Classical
section
variable {R:Type} [CR R]
noncomputable def aj (p:P R):List R:=(List.range (aa p)).map p.c
def ac (l:List R):P R:=⟨fun i=>l.getD i 0,l.length,fun i hi=>by simp[List.getD,List.getElem?_eq_none hi]⟩
theorem uk (l:List R) (i:Nat):(ac l).c i=l.getD i 0:=rfl
theorem aZ (p:P R):(aj p).length=aa p:=by simp[aj]
theorem hO (p:P R) {i:Nat} (h:i<(aj p).length):(aj p)[i]=p.c i:=by simp[aj]
theorem mC (p:P R) (i:Nat):(aj p).getD i 0=p.c i:=by
 rcases Nat.lt_or_ge i (aa p)with h|h
 ·simp[aj,List.getD,h]
 ·rw[aO h];simp[aj,List.getD,h]
theorem DX (p:P R):ac (aj p)=p:=P.ext fun i=>mC p i
theorem qt:aj (0:P R)=[]:=by simp[aj,aM.2]
theorem Pr {p q:P R} (h:aj p=aj q):p=q:=by rw[<-DX p,<-DX q,h]
theorem nU {p:P R} {x:R} (h:x∈aj p):∃ i,i<aa p/\x=p.c i:=by
 simp only[aj,List.mem_map,List.mem_range]at h;obtain⟨i,hi,rfl⟩:=h;exact⟨i,hi,rfl⟩
theorem QH (l:List R):aa (ac l)<=l.length:=cm fun i hi=>by simp[uk,List.getD,List.getElem?_eq_none hi]
theorem Ey {l:List R} {p:P R} (h:∀ i (hi:i<l.length),l[i]=p.c i) (hz:∀ i,l.length<=i->p.c i=0) (hl:∀ h:l.length-1<l.length,l[l.length-1]≠0):l=aj p:=by
 have hs:aa p=l.length:=jU hz fun h0=>by
  rw[<-h _ aw];exact hl aw
 refine List.ext_getElem (by rw[aZ,hs]) fun i h1 h2=>?_;rw[h i h1,hO]
theorem cl_C {a:R} (h:a≠0):aj (an a)=[a]:=(Ey (l:=[a]) (p:=an a) (fun i hi=>by
 have:i=0:=by simpa using hi
 subst this;rfl) (fun i hi=>by cases i with|zero=>simp at hi|succ i=>rfl) (fun _=>h)).symm
def der (p:P R):P R:=⟨fun i=>nc (i+1)*p.c (i+1),by
 obtain⟨n,hn⟩:=p.fin;exact⟨n,fun i hi=>by rw[hn _ aw,mul_zero]⟩⟩
theorem kf (p:P R) (i:Nat):(der p).c i=nc (i+1)*p.c (i+1):=rfl
theorem Mq (p q:P R):der (p+q)=der p+der q:=P.ext fun i=>by rw[kf,ce,ce,kf,kf,mul_add]
theorem oy (p q:P R):der (p*q)=der p*q+p*der q:=P.ext fun n=>by
 rw[kf,ce,iq,<-sW];have e1:tri (fun i j=>nc (n+1)*(p.c i*q.c j)) (n+1)=tri (fun i j=>nc i*p.c i*q.c j) (n+1)+tri (fun i j=>p.c i*(nc j*q.c j)) (n+1):=by
  rw[<-xr];refine eB fun i j e=>?_;rw[<-e,rp];exact ring [nc i,nc j,p.c i,q.c j]
 rw[e1];congr 1
 ·show nc 0*p.c 0*q.c (n+1)+tri (fun i j=>nc (i+1)*p.c (i+1)*q.c j) n=_;rw[show(nc 0:R)=0 from rfl,zero_mul,zero_mul,zero_add];rfl
 ·rw[zf];show _+p.c (n+1)*(nc 0*q.c 0)=_;rw[show(nc 0:R)=0 from rfl,zero_mul,mul_zero,add_zero];rfl
theorem Rk (a:R):der (an a)=0:=P.ext fun i=>by rw[kf,hY,mul_zero];rfl
theorem yd (p:P R):aa (der p)<=aa p-1:=cm fun i hi=>by rw[kf,aO aw,mul_zero]
theorem Mp (p:P R):der (-p) = -der p:=P.ext fun i=>by rw[kf,wT,wT,kf,mul_neg]
theorem Mo (p q:P R):der (p-q)=der p-der q:=by rw[sub_eq,Mq,Mp,sub_eq]
theorem Rj:der (ak:P R)=1:=P.ext fun i=>by
 rw[kf,ak,bY];cases i with
 | zero=>simp only[nc,zero_add,mul_one,if_true];rfl
 | succ i=>rw[if_neg aw,mul_zero];rfl
end
section
variable {F:Type} [CR F] [Fd F]
theorem CO (b:P F) (hb:b≠0):∀(n:Nat) (a:P F),aa a<=n->∃ q r:P F,a=q*b+r/\aa r<aa b:=by
 intro n
 induction n with
 | zero=>exact fun a h=>⟨0,a,by rw[zero_mul,zero_add],by have:=aR hb;omega⟩
 | succ n ih =>
  intro a h;rcases Nat.lt_or_ge (aa a) (aa b)with h1|h1
  ·exact⟨0,a,by rw[zero_mul,zero_add],h1⟩
  ·have hb0:=aR hb;have hlow:aa (a-mon (aa a-aa b) (lc a*inv (lc b))*b)<=n:=cm fun i hi=>by
    rw[i9,cu,if_pos aw];by_cases e:i=aa a-1
    ·subst e;rw[show aa a-1-(aa a-aa b)=aa b-1 by omega];show lc a-lc a*inv (lc b)*lc b=0;rw[mul_assoc,cA (bN hb),mul_one,sub_self]
    ·rw[aO (by omega:aa a<=i),aO (p:=b) aw,mul_zero,sub_self]
   obtain⟨q,r,e1,e2⟩:=ih _ hlow;refine⟨q+mon (aa a-aa b) (lc a*inv (lc b)),r,?_,e2⟩;exact lc1 1 e1 (ring [a,mon (aa a-aa b) (lc a*inv (lc b)),b,q,r])
theorem JE {b q r q' r':P F} (h:q*b+r=q'*b+r') (hr:aa r<aa b) (hr':aa r'<aa b):q=q'/\r=r':=by
 have e:(q-q')*b=r'-r:=lc1 (1:P F) h (ring [q,q',b,r,r']);have hq:q=q':=Classical.byContradiction fun hne=>by
  have h1:q-q'≠0:=fun e=>hne (fT e);have hb:b≠0:=fun e=>by rw[e,aM.2 rfl]at hr;omega
  have h2:=dz h1 hb;have h3:=aR h1;rw[e]at h2;have h4:=gB (p:=r') (q:=r) (n:=aa b-1) aw aw;omega
 subst hq;exact⟨rfl,gm h⟩
noncomputable def qu (a b:P F):P F:=if h:b≠0 then choose (CO b h (aa a) a (ay _))else 0
noncomputable def ab (a b:P F):P F:=if h:b≠0 then choose (choose_spec (CO b h (aa a) a (ay _)))else a
theorem qure {a b:P F} (h:b≠0):a=qu a b*b+ab a b/\aa (ab a b)<aa b:=by
 simp only[qu,ab,dif_pos h];exact choose_spec (choose_spec (CO b h (aa a) a (ay _)))
theorem md {a b q r:P F} (h:a=q*b+r) (hr:aa r<aa b):qu a b=q/\ab a b=r:=by
 have hb:b≠0:=fun e=>by rw[e,aM.2 rfl]at hr;omega
 obtain⟨h1,h2⟩:=qure (a:=a) hb;exact JE (h1.symm.trans h) h2 hr
theorem O6 {a b g:P F} (h:b≠0):IsG g b (ab a b)↔IsG g a b:=by
 obtain⟨h1,-⟩:=qure (a:=a) h;have e:ab a b=a-qu a b*b:=lc1 (-1) h1 (ring [a,qu a b,b,ab a b]);constructor
 ·rintro ⟨k1,k2,k3⟩;refine⟨?_,k1,fun d d1 d2=>k3 d d2 ?_⟩
  ·rw[h1];exact(k1.mul_left _).add k2
  ·rw[e];exact d1.sub (d2.mul_left _)
 ·rintro ⟨k1,k2,k3⟩;refine⟨k2,?_,fun d d1 d2=>k3 d ?_ d1⟩
  ·rw[e];exact k1.sub (k2.mul_left _)
  ·rw[h1];exact(d1.mul_left _).add d2
end
section
variable {F:Type} [CR F] [Fd F]
noncomputable def mn (p:P F):P F:=an (inv (lc p))*p
theorem iJ:mn (0:P F)=0:=mul_zero _
theorem QZ {p:P F} (h:p≠0):lc (mn p)=1:=by rw[mn,gU,mV,cA (bN h)]
theorem lz {p:P F} (h:lc p=1):mn p=p:=by rw[mn,h,Ed,bP,one_mul]
theorem QV (p:P F):mn (mn p)=mn p:=by
 by_cases h:p=0
 ·rw[h,iJ,iJ]
 ·exact lz (QZ h)
theorem NE (p:P F):aa (mn p)=aa p:=by
 by_cases h:p=0
 ·rw[h,iJ]
 ·exact bW (fC (bN h)) p
theorem OW (p q:P F):mn (p*q)=mn p*mn q:=by
 rw[mn,gU,uF,bC,mn,mn];exact ring [an (inv (lc p)),an (inv (lc q)),p,q]
theorem zU {c:F} (h:c≠0) (p:P F):mn (an c*p)=mn p:=by
 rw[OW,mn,mV,<-bC,cA h,bP,one_mul]
theorem NS (p:P F):Dv p (mn p):=(Dv.refl p).mul_left _
theorem IP (p:P F):Dv (mn p) p:=by
 by_cases h:p=0
 ·rw[h,iJ];exact Dv.refl _
 ·refine⟨an (lc p),?_⟩;rw[mn,mul_comm,<-mul_assoc,<-bC,mul_inv (bN h),bP,one_mul]
theorem Ar {a b:P F} (h:Dv a b) (h':Dv b a):mn a=mn b:=by
 obtain⟨c,rfl⟩:=h;by_cases ha:a=0
 ·rw[ha,zero_mul]
 ·obtain⟨d,hd⟩:=h';have e:c*d=1:=cD ha (by rw[<-mul_assoc,<-hd,mul_one]);have hc:c≠0:=fun e'=>by rw[e',zero_mul]at e;exact one_ne e.symm
  have hd':d≠0:=fun e'=>by rw[e',mul_zero]at e;exact one_ne e.symm
  have hs:=dz hc hd';have h1:aa (1:P F)=1:=jf one_ne;have:=aR hc;have:=aR hd';rw[e,h1]at hs;have hcC:=dS (p:=c) aw;have hc0:c.c 0≠0:=fun e'=>hc (by rw[hcC,e',cC]);rw[hcC,mul_comm,zU hc0]
theorem O7 {g a b:P F} (h:IsG g a b):IsG (mn g) a b:=⟨(IP g).trans h.1,(IP g).trans h.2.1,fun d h1 h2=>(h.2.2 d h1 h2).trans (NS g)⟩
noncomputable def ai (a b:P F):P F:=mn (choose (sU.ex a b))
theorem ql (a b:P F):IsG (ai a b) a b:=O7 (choose_spec (sU.ex a b))
theorem IN (a b:P F):mn (ai a b)=ai a b:=QV _
theorem qk {g a b:P F} (h:IsG g a b):mn g=ai a b:=by
 rw[<-IN];exact Ar ((ql a b).2.2 g h.1 h.2.1) (h.2.2 _ (ql a b).1 (ql a b).2.1)
theorem ot (a:P F):ai a 0=mn a:=(qk ⟨Dv.refl a,Dv.zero a,fun _ h _=>h⟩).symm
theorem Eh {a b:P F} (h:b≠0):ai b (ab a b)=ai a b:=by
 rw[<-qk ((O6 (a:=a) h).1 (ql b (ab a b))),IN]
noncomputable def eu (a b:P F):List (P F×P F):=if _h:b=0 then[]else(a,b)::eu b (ab a b)
termination_by aa b
decreasing_by exact(qure _h).2
theorem jz (a:P F):eu a 0=[]:=by rw[eu,dif_pos rfl]
theorem kK {a b:P F} (h:b≠0):eu a b=(a,b)::eu b (ab a b):=by rw[eu,dif_neg h]
noncomputable def euL (a b:P F):P F:=(((eu a b).getLast?).map (·.2)).getD a
theorem nM (a:P F):euL a 0=a:=by rw[euL,jz];rfl
theorem qn {a b:P F} (h:b≠0):euL a b=euL b (ab a b):=by
 rw[euL,euL,kK h,List.getLast?_cons];cases (eu b (ab a b)).getLast?<;>rfl
theorem Ph (n:Nat):∀(a b:P F),aa b<=n->mn (euL a b)=ai a b:=by
 induction n with
 | zero =>
  intro a b h;have hb:b=0:=aM.1 aw;rw[hb,nM,ot]
 | succ n ih =>
  intro a b h;by_cases hb:b=0
  ·rw[hb,nM,ot]
  ·rw[qn hb,ih _ _ (by have:=(qure (a:=a) hb).2;omega),Eh hb]
end
end Alg
namespace Go.AM
open Alg
open Go.Proofs
open Classical
abbrev KP:=Alg.P KQ
noncomputable abbrev ku (p:KP):IV:=kl (aj p)
def PW (w:Nat) (p:KP):Prop:=∀ i,FB w (p.c i)
theorem dY (w:Nat):FB w 0:=by
 refine⟨0,1,d9 (R:=Int) aH,?_,?_,?_,?_,?_⟩
 ·rw[cK,oe];rfl
 ·rw[aM.2 rfl];omega
 ·rw[iI];exact Nat.zero_le _
 ·rw[show aa (1:Alg.P Int)=1 from jf (R:=Int) aH];omega
 ·rw[ge (n:=1) (by rw[show aa (1:Alg.P Int)=1 from jf (R:=Int) aH];exact ay _)];show 0+Int.natAbs 1<=_;exact Nat.one_le_two_pow
theorem gG {z:Int} {w:Nat} (h:z.natAbs<=2 ^ w):FB w (kn z):=by
 refine⟨an z,1,d9 (R:=Int) aH,?_,?_,?_,?_,?_⟩
 ·rw[pO,oe];rfl
 ·have:aa (an z)<=1:=cm fun i hi=>by cases i with|zero=>omega|succ i=>rfl
  omega
 ·rw[ge (n:=1) (cm fun i hi=>by cases i with|zero=>omega|succ i=>rfl)]
  show 0+Int.natAbs z<=_;omega
 ·rw[show aa (1:Alg.P Int)=1 from jf (R:=Int) aH];omega
 ·rw[ge (n:=1) (by rw[show aa (1:Alg.P Int)=1 from jf (R:=Int) aH];exact ay _)];show 0+Int.natAbs 1<=_;exact Nat.one_le_two_pow
theorem fS:kn 0=0:=by show Alg.em (an (0:Rat))=0;rw[show an (0:Rat)=0 from cC];rfl
theorem d7:kn 1=1:=rfl
theorem O0 (a b:Int):kn (a+b)=kn a+kn b:=by
 show Alg.em (an (((a+b:Int)):Rat))=_;rw[Rat.intCast_add,show an ((a:Rat)+(b:Rat))=an (a:Rat)+an (b:Rat)from xf _ _,uX]
theorem I9 (a:Int):kn (-a) = -kn a:=by
 show Alg.em (an (((-a:Int)):Rat))=_;rw[Rat.intCast_neg,show an (-(a:Rat)) = -an (a:Rat)from kM _,CL]
theorem Eb (n:Nat):kn (n:Int)=Alg.nc n:=by
 induction n with
 | zero=>exact fS
 | succ n ih =>
  rw[show((n+1:Nat):Int)=(n:Int)+1 by omega,O0,ih,d7];rfl
theorem wv {z:Int} (h:z≠0):kn z≠0:=Er (d9 (R:=Rat) (by simpa using h))
theorem PW.mono {w v:Nat} {p:KP} (h:PW w p) (hv:w<=v):PW v p:=fun i=>(h i).mono hv
theorem PW.add {w v:Nat} {p q:KP} (h:PW w p) (h':PW v q):PW (w+v+1) (p+q):=fun i=>(h i).add (h' i)
theorem PW.sub {w v:Nat} {p q:KP} (h:PW w p) (h':PW v q):PW (w+v+1) (p-q):=fun i=>(h i).sub (h' i)
theorem PW.scale {w v:Nat} {p:KP} {c:KQ} (h:PW w p) (h':FB v c):PW (w+v) (p*an c):=fun i=>by rw[ol];exact(h i).mul h'
theorem PW.fw {w:Nat} {p:KP} (h:PW w p) (hw:w<=1000):∀ f∈aj p,FW f:=fun f hf=>by
 obtain⟨i,-,rfl⟩:=nU hf;exact(h i).mono hw
theorem gL (l:List KQ):dO l=aj (ac l):=by
 have hs:=QH l;have hg:∀ j (h:j<l.length),(ac l).c j=l[j]:=fun j h=>by simp[uk,List.getD,h]
 rw[iu hs (fun j hj h=>by rw[<-hg j hj];exact aO h) (fun h h0=>by rw[<-hg _ h];exact kD aw)];refine List.ext_getElem (by simp[aj,hs]) fun i h1 h2=>?_;simp only[List.length_take]at h1;rw[hO,hg i aw,List.getElem_take]
theorem EE (p q:KP):AN (aj p) (aj q)=aj (p+q):=by
 have key:∀ p q:KP,aa q<=aa p->ac (kX (aj p) (aj q) (aj q).length)=p+q:=fun p q h=>Alg.P.ext fun j=>by
  rw[uk,ce];rcases Nat.lt_or_ge j (aa p)with hj|hj
  ·simp only[kX,List.getD_eq_getElem?_getD,List.getElem?_map,List.getElem?_range,aZ,hj,if_true,Option.map_some,Option.getD_some];simp only[<-List.getD_eq_getElem?_getD,mC];split
   ·rfl
   ·rw[aO (p:=q) aw,add_zero]
  ·rw[aO hj,aO (p:=q) aw,add_zero,List.getD_eq_getElem?_getD,List.getElem?_eq_none (by simp[kX,aZ,hj])];rfl
 rw[AN];split
 ·rename_i h;simp only[aZ]at h;have:=key q p aw;rw[gL,this,add_comm]
 ·rename_i h;simp only[aZ]at h;have:=key p q aw;rw[gL,this]
theorem lj (p:KP) (c:KQ):dO ((aj p).map (· * c))=aj (p*an c):=by
 rw[gL];congr 1;refine Alg.P.ext fun i=>?_;rw[uk,ol,<-mC p i];simp only[List.getD_eq_getElem?_getD,List.getElem?_map];cases (aj p)[i]? with
 | none=>exact(zero_mul _).symm
 | some x=>rfl
theorem M6 {p:KP} {c:KQ} {w v:Nat} (hp:PW w p) (hc:FB v c) (hb:w+v<=1000) (hs:aa p<=1000):Fn Tryz.prog 52 [ku p,iK c] [ku (p*an c)]:=by
 have:=rQ ib (aj p) c (by rw[aZ];omega) (hp.fw aw) (hc.mono aw) (fun f hf=>by
  obtain⟨i,-,rfl⟩:=nU hf;exact((hp i).mul hc).mono hb)
 rwa [lj]at this
theorem KAddP {p q:KP} {w v:Nat} (hp:PW w p) (hq:PW v q) (hb:w+v+1<=1000) (hs:aa p<=1000) (hs':aa q<=1000):Fn Tryz.prog 16 [ku p,ku q] [ku (p+q)]:=by
 have:=EX ib (aj p) (aj q) (by rw[aZ];omega) (by rw[aZ];omega) (hp.fw aw) (hq.fw aw) (fun f hf g hg=>by
  obtain⟨i,-,rfl⟩:=nU hf;obtain⟨j,-,rfl⟩:=nU hg;exact((hp i).add (hq j)).mono hb)
 rwa [EE]at this
theorem jG (q:KP):q*an (kn (-1)) = -q:=by
 rw[show kn (-1) = -(1:KQ)from(I9 1).trans (by rw[d7]),show an (-(1:KQ)) = -(1:KP)from kM _,mul_neg,mul_one]
theorem EW {p q:KP} {w v:Nat} (hp:PW w p) (hq:PW v q) (hb:w+v+1<=1000) (hs:aa p<=1000) (hs':aa q<=1000):Fn Tryz.prog 50 [ku p,ku q] [ku (p-q)]:=by
 have hn:PW v (-q):=fun i=>(hq i).neg;have:=M5 ib (aj p) (aj q) (by rw[aZ];omega) (by rw[aZ];omega) (hp.fw aw) (hq.fw aw) ((gG (w:=0) aH).mono aw)
  (fun f hf=>by
   obtain⟨i,-,rfl⟩:=nU hf;have:=hn i;rw[<-jG,ol]at this;exact this.mono aw) (by
   rw[lj,jG];intro f hf g hg;obtain⟨i,-,rfl⟩:=nU hf;obtain⟨j,-,rfl⟩:=nU hg;exact((hp i).add (hn j)).mono hb) (by rw[lj,jG];exact hn.fw aw) (by rw[lj,jG,aZ,kQ];omega)
 rw[lj,jG,EE,<-sub_eq]at this;exact this
theorem tv {p:KP} {w:Nat} (hp:PW w p) (hb:2*w<=1000) (hs:aa p<=1000):Fn Tryz.prog 53 [ku p] [ku (mn p)]:=by
 by_cases h0:p=0
 ·have:=Dn;have e:ku (0:KP)=kl []:=by show kl (aj 0)=_;rw[qt]
  rw[h0,iJ,e];exact this
 ·have hp0:=aR h0;have hl:(aj p)[(aj p).length-1]'(by rw[aZ];omega)=lc p:=by rw[hO,aZ];rfl
  have hlw:FB w (Alg.inv (lc p)):=(hp _).inv (bN h0);have h1:(1:Nat)<=2 ^ 0:=ay _;have hc:kn 1*Alg.inv (lc p)=Alg.inv (lc p):=by rw[d7,one_mul]
  have:=G3 ib (aj p) (by rw[aZ];omega) (by rw[aZ];omega) (Alg.inv (lc p)) (by rw[hl,hc]) (by rw[hl];exact bN h0) (hp.fw aw) ((gG (w:=0) aH).mono aw) (hlw.mono aw) (fun f hf=>by
   obtain⟨i,-,rfl⟩:=nU hf;exact((hp i).mul hlw).mono aw)
  rw[lj,mul_comm]at this;exact this
theorem Pp (p:KP):nO (aj p) (aj p).length=aj (der p):=by
 refine Ey (fun i hi=>?_) (fun i hi=>?_) (fun h=>?_)
 ·simp only[nO,List.getElem_map,List.getElem_range,mC,kf,Eb]
 ·simp only[nO,az,List.length_range,aZ]at hi;rw[kf,aO aw,mul_zero]
 ·simp only[nO,az,List.length_range,aZ]at h;simp only[nO,List.getElem_map,List.getElem_range,mC,az,List.length_range,aZ];refine a6 (wv aw) ?_;rw[show aa p-1-1+1=aa p-1 by omega];exact kD aw
theorem JF {p:KP} {w:Nat} (hp:PW w p) (hs:aa p<=1000):PW (w+10) (der p):=fun i=>by
 rw[kf];rcases Nat.lt_or_ge (i+1) (aa p)with h|h
 ·have h1:FB 10 (kn ((i+1:Nat):Int)):=gG (by rw[Int.natAbs_natCast];omega);rw[<-Eb,Nat.add_comm w];exact h1.mul (hp _)
 ·rw[aO h,mul_zero];exact dY _
theorem yI {p:KP} {w:Nat} (hp:PW w p) (hb:w+10<=1000) (hs:aa p<=1000):Fn Tryz.prog 17 [ku p] [ku (der p)]:=by
 have:=Kz ib (aj p) (by rw[aZ];omega) (hp.fw aw) (fun i hi=>(gG (w:=10) (by
  rw[aZ]at hi;rw[Int.natAbs_natCast];omega)).mono aw) (fun i hi=>by
  rw[hO];rw[aZ]at hi;have h1:FB 10 (kn (i:Int)):=gG (by rw[Int.natAbs_natCast];omega);exact(h1.mul (hp i)).mono aw)
 rwa [Pp]at this
noncomputable def tk (p:KP) (n:Nat):KP:=⟨fun j=>if j<n then p.c j else 0,n,fun i hi=>if_neg aw⟩
theorem FE (p:KP) (n j:Nat):(tk p n).c j=if j<n then p.c j else 0:=rfl
theorem l5 (p:KP):tk p 0=0:=Alg.P.ext fun j=>by rw[FE,if_neg aw];rfl
theorem oh (p:KP) (n:Nat):tk p (n+1)=tk p n+mon n (p.c n):=Alg.P.ext fun j=>by
 rw[ce,FE,FE,bY];by_cases h:j=n
 ·subst h;rw[if_pos aw,if_neg aw,if_pos rfl,zero_add]
 ·rw[if_neg h,add_zero];by_cases h':j<n
  ·rw[if_pos aw,if_pos h']
  ·rw[if_neg aw,if_neg h']
theorem tN {p:KP} {n:Nat} (h:aa p<=n):tk p n=p:=Alg.P.ext fun j=>by
 rw[FE];split
 ·rfl
 ·exact(aO aw).symm
theorem Qd {p:KP} {w n:Nat} (h:PW w p):PW w (tk p n):=fun j=>by
 rw[FE];split
 ·exact h j
 ·exact dY w
noncomputable def pp (p q:KP) (i k:Nat):KP:=tk p i*q+mon i (p.c i)*tk q k
theorem DV (p q:KP) (i k:Nat):pp p q i (k+1)=pp p q i k+mon (i+k) (p.c i*q.c k):=by
 rw[pp,pp,oh,mul_add,dV,add_assoc]
theorem Lq (p q:KP) (i:Nat):pp p q i (aa q)=pp p q (i+1) 0:=by
 rw[pp,pp,l5,mul_zero,add_zero,oh,add_mul,tN (ay _)]
theorem Lp (p q:KP):pp p q 0 0=0:=by rw[pp,l5,l5,zero_mul,mul_zero,add_zero]
theorem OT (p q:KP):pp p q (aa p) 0=p*q:=by rw[pp,l5,mul_zero,add_zero,tN (ay _)]
theorem ut {q:KP} {c:KQ} {w v i:Nat} (hc:FB w c) (hq:PW v q):PW (w+v) (mon i c*q):=fun j=>by
 rw[cu];split
 ·exact hc.mul (hq _)
 ·exact dY _
theorem DB {p q:KP} {w v:Nat} (hp:PW w p) (hq:PW v q):∀ i,PW (i*(w+v+1)) (tk p i*q)
 | 0=>fun j=>by rw[l5,zero_mul];exact dY _
 | i+1=>fun j=>by
  rw[oh,add_mul,ce,Nat.add_mul,Nat.one_mul,<-Nat.add_assoc];exact(DB hp hq i j).add (ut (hp i) hq j)
theorem QG {p q:KP} {w v:Nat} (hp:PW w p) (hq:PW v q) (i k:Nat):PW ((i+1)*(w+v+1)) (pp p q i k):=fun j=>by
 rw[pp,ce,Nat.add_mul,Nat.one_mul,<-Nat.add_assoc];exact(DB hp hq i j).add (ut (hp i) (Qd hq) j)
theorem QS {p q:KP} {w v:Nat} (hp:PW w p) (hq:PW v q):PW (aa p*(w+v+1)) (p*q):=by
 have:=DB hp hq (aa p);rwa [tN (ay _)]at this
noncomputable def dR (n:Nat) (p:KP):List KQ:=(List.range n).map p.c
theorem eD (n:Nat) (p:KP):(dR n p).length=n:=by simp[dR]
theorem ln {n j:Nat} (p:KP) (h:j<n):(dR n p)[j]?=some (p.c j):=by simp[dR,h]
theorem zz {n j:Nat} (p:KP) (c:KQ):(dR n p).set j (p.c j+c)=dR n (p+mon j c):=by
 refine List.ext_getElem (by simp[dR]) fun i h1 h2=>?_;rw[List.getElem_set];simp only[dR,List.getElem_map,List.getElem_range,ce,bY];by_cases e:j=i
 ·subst e;rw[if_pos rfl,if_pos rfl]
 ·rw[if_neg e,if_neg (fun e'=>e e'.symm),add_zero]
theorem xC {n:Nat} {p:KP} (h:aa p=n):dR n p=aj p:=by rw[dR,aj,h]
set_option maxHeartbeats 1000000 in
theorem Ba {p q:KP} {w v:Nat} (hp:PW w p) (hq:PW v q) (hb:aa p*(w+v+1)<=1000) (hs:aa p<=1000) (hs':aa q<=1000) (hw:w<=1000) (hv:v<=1000):Fn Tryz.prog 14 [ku p,ku q] [ku (p*q)]:=by
 by_cases h0:p=0\/q=0
 ·have e:p*q=0:=by rcases h0 with rfl|rfl;exact zero_mul _;exact mul_zero _
  have eku:ku (0:KP)=kl []:=by show kl (aj 0)=_;rw[qt]
  rw[e,eku];by_cases hp0:p=0
  ·have e1:decide (((0:Nat):Int)=0)=true:=rfl;rw[hp0,eku];refine aJ (fn:=Tryz.f14) ?_;simp -dsimp only[go_sem,az,e1];rfl
  ·have e2:decide ((aa p:Int)=0)=false:=aG (by have:=aR hp0;omega);have hq0:q=0:=h0.resolve_left hp0;have e1:decide (((0:Nat):Int)=0)=true:=rfl;rw[hq0,eku];refine aJ (fn:=Tryz.f14) ?_;simp -dsimp only[go_sem,az,aZ,e1,e2];rfl
 ·have hp0:p≠0:=fun h=>h0 (.inl h);have hq0:q≠0:=fun h=>h0 (.inr h);have sp:=aR hp0;have sq:=aR hq0;obtain⟨n,hn⟩:∃ n,n=aa p+aa q-1:=⟨_,rfl⟩;have e1:decide ((aa p:Int)=0)=false:=aG aw;have e2:decide ((aa q:Int)=0)=false:=aG aw;have en:((aa p+aa q:Nat):Int)-1=(n:Int):=aw;have hrep:=wZ (kr (kn 0)) rfl n aw aw;have erep:List.replicate n (kr (kn 0))=(dR n (pp p q 0 0)).map kr:=by
   rw[Lp,fS];refine List.ext_getElem (by simp[dR]) fun i h1 h2=>?_;simp[dR];rfl
  have eem:(!(List.map kr (dR n (pp p q 0 0))).isEmpty)=true:=by
   rw[dR];obtain⟨m,rfl⟩:∃ m,n=m+1:=⟨n-1,aw⟩;simp[List.range_succ]
  rw[erep]at hrep;refine aJ (fn:=Tryz.f14) ?_;simp -dsimp only[go_sem,az,aZ,e1,e2];refine aK (cB 0 aH) ?_;simp -dsimp only[go_sem,az,aZ,e1,e2,en]
  repeat(refine And.intro aw ?_)
  refine co hrep ?_;simp -dsimp only[go_sem,az,aZ,eem];refine bt [(6,9),(29,57)] [(7,7),(9,9)] [(26,26)] (fun m τ β ε=>∃ i:Nat,m=aa p-i/\i<=aa p/\τ 29 = .i (iN i)/\ε 26=⟨1,2,(dR n (pp p q i 0)).map kr,true,true⟩)
   (fun e τ β ε=>e = .exit 0/\ε 26=⟨1,2,(dR n (p*q)).map kr,true,true⟩) (aa p) ?_ ?_ ?_
  ·exact⟨0,aw,aw,rfl,rfl⟩
  ·rintro m τ β ε π hK hKB hKE ⟨i,hm,hi,h29,h26⟩;have k28:τ 28 = .i (iN (aa p)):=by rw[hK 28 aH];simp -dsimp only[go_sem,az,aZ]
   have k27:τ 27 = .i (ku p):=(hK 27 rfl).trans rfl;have k5:τ 5 = .sl 26 1 n:=by rw[hK 5 aH];simp -dsimp only[go_sem,az,eD]
   have k1:τ 1 = .i (ku q):=(hK 1 rfl).trans rfl;by_cases hlt:i<aa p
   ·have hA:(i:Int)<(aa p:Int):=aw;have hg:(aj p)[i]?=some (p.c i):=by rw[aD (by rw[aZ];exact hlt),hO]
    simp -dsimp only[go_sem,h29,k28,k27,hA];refine aP hg ?_;simp -dsimp only[go_sem,h29,k28,k27,hA,k1,az,aZ];refine a8 [(8,9),(36,56)] [(9,9)] [(26,26)] (fun m τ β ε=>∃ k:Nat,m=aa q-k/\k<=aa q/\τ 36 = .i (iN k)/\ε 26=⟨1,2,(dR n (pp p q i k)).map kr,true,true⟩)
     (fun e τ β ε=>e = .exit 2/\ε 26=⟨1,2,(dR n (pp p q (i+1) 0)).map kr,true,true⟩) (aa q) ?_ ?_ ?_
    ·exact⟨0,aw,aw,rfl,h26⟩
    ·rintro m2 τ2 β2 ε2 π2 hK2 hKB2 hKE2 ⟨k,hm2,hk,h36,h26'⟩;have q35:τ2 35 = .i (iN (aa q)):=by rw[hK2 35 aH];simp -dsimp only[go_sem,az,aZ]
     have q34:τ2 34 = .i (ku q):=by rw[hK2 34 aH];simp -dsimp only[go_sem,k1]
     have q5:τ2 5 = .sl 26 1 n:=(hK2 5 rfl).trans k5;have q6:τ2 6 = .i (iN i):=by rw[hK2 6 aH];simp -dsimp only[go_sem,h29]
     have q7:τ2 7 = .bp 7 ((β 7).gen+1) 0:=(hK2 7 rfl).trans rfl;have b7:β2 7=⟨(β 7).gen+1,kr (p.c i)⟩:=(hKB2 7 rfl).trans rfl;by_cases hlt2:k<aa q
     ·have hA2:(k:Int)<(aa q:Int):=aw;have hg2:(aj q)[k]?=some (q.c k):=by rw[aD (by rw[aZ];exact hlt2),hO]
      have eik:(i:Int)+(k:Int)=((i+k:Nat):Int):=aw;have hg3:=ln (n:=n) (j:=i+k) (pp p q i k) aw;have hW:=QG hp hq i k (i+k);have hW2:=QG hp hq i (k+1) (i+k);have hwv:w+v<=1000:=by
       have:=Nat.mul_le_mul_right (w+v+1) (show 1<=aa p by omega);omega
      have hle:(i+1)*(w+v+1)<=1000:=ax (Nat.mul_le_mul_right _ hlt) hb;simp -dsimp only[go_sem,h36,q35,q34,hA2];refine aP hg2 ?_;simp -dsimp only[go_sem,h36,q35,q34,hA2];refine ap 15 [] false true ?_;simp -dsimp only[go_sem,h36,q35,q34,hA2,q5,q6,q7,b7,h26',eik]
      repeat(refine And.intro aw ?_)
      refine aP hg3 ?_;simp -dsimp only[go_sem,h36,q35,q34,hA2,q5,q6,q7,b7,h26',eik];refine ao (kt ib ((hp i).mono hw) ((hq k).mono hv) (((hp i).mul (hq k)).mono hwv)) rfl ?_;simp -dsimp only[go_sem,h36,q35,q34,hA2,q5,q6,q7,b7,h26',eik];have hsum:FW ((pp p q i k).c (i+k)+p.c i*q.c k):=by
       rw[DV,ce,bY,if_pos rfl]at hW2;exact hW2.mono hle
      refine ao (Bh ib (hW.mono hle) (((hp i).mul (hq k)).mono hwv) hsum) rfl ?_;simp -dsimp only[go_sem,h36,q35,q34,hA2,q5,q6,q7,b7,h26',eik];refine⟨aw,aP hg3 ?_⟩;simp -dsimp only[go_sem,h36]
      repeat(refine And.intro aw ?_)
      refine again (aa q-(k+1)) aw ⟨(aA hK2),(aA hKB2),(aA hKE2),k+1,rfl,aw,rfl,?_⟩;simp -dsimp only[go_sem,h26'];rw[DV,<-zz,List.map_set];rfl
     ·have hA2:¬ (k:Int)<(aa q:Int):=aw;obtain rfl:k=aa q:=aw;simp -dsimp only[go_sem,h36,q35,hA2];exact⟨(aA hK2),hKB2,hKE2,by rw[h26',Lq]⟩
    ·rintro e τ2 β2 ε2 π2 hK2 hKB2 hKE2 ⟨rfl,h26'⟩;have q29:τ2 29 = .i (iN i):=(hK2 29 rfl).trans h29;have kO:=Kp.step2 hK hK2 (by intro n;simp[inR]<;>omega) (aA hK);have kB:=Kp.step2 hKB hKB2 (by intro n;simp[inR]<;>omega) (aA hKB);have kE:=Kp.step2 hKE hKE2 (by intro n;simp[inR]) hKE;simp -dsimp only[go_sem,q29]
     repeat(refine And.intro aw ?_)
     refine again (aa p-(i+1)) aw ⟨(aA kO),kB,kE,i+1,rfl,aw,rfl,h26'⟩
   ·have hA:¬ (i:Int)<(aa p:Int):=aw;obtain rfl:i=aa p:=aw;simp -dsimp only[go_sem,h29,k28,hA];exact⟨(aA hK),hKB,hKE,by rw[h26,OT]⟩
  ·rintro e τ β ε π hK hKB hKE ⟨rfl,h26⟩;have k5:τ 5 = .sl 26 1 n:=by rw[hK 5 aH];simp -dsimp only[go_sem,az,eD]
   refine⟨_,bA.freeze _ 26,?_⟩;simp -dsimp only[go_sem,k5,h26];have hsz:aa (p*q)=n:=by rw[dz hp0 hq0,hn]
   rw[List.take_of_length_le (by simp[eD]),xC hsz]
theorem fF:ku (0:KP)=kl []:=by show kl (aj 0)=_;rw[qt]
def wD (w v:Nat):Nat->Nat
 | 0=>w
 | n+1=>2*wD w v n+2*v+1
theorem jt (w v:Nat):∀{m n:Nat},m<=n->wD w v m<=wD w v n:=by
 intro m n h
 induction n with
 | zero=>rw[Nat.le_zero.1 h];exact ay _
 | succ n ih =>
  rcases Nat.lt_or_ge n m with h1|h1
  ·rw[show m=n+1 by omega];exact ay _
  ·have:=ih h1;simp only[wD];omega
theorem DL {n:Nat} {p:KP} (h:aa p<=n):dO (dR n p)=aj p:=by
 rw[gL];congr 1;refine Alg.P.ext fun i=>?_;rw[uk,List.getD_eq_getElem?_getD];rcases Nat.lt_or_ge i n with hi|hi
 ·rw[ln p hi];rfl
 ·rw[List.getElem?_eq_none (by rw[eD];exact hi),aO aw];rfl
theorem FQ {n j:Nat} {p p':KP} {x:KQ} (h:∀ i,i≠j->p'.c i=p.c i) (hx:p'.c j=x):(dR n p).set j x=dR n p':=by
 refine List.ext_getElem (by simp[dR]) fun i h1 h2=>?_;rw[List.getElem_set];simp only[dR,List.getElem_map,List.getElem_range];by_cases e:j=i
 ·subst e;rw[if_pos rfl,hx]
 ·rw[if_neg e,h i fun e'=>e e'.symm]
theorem yF (p:KP):Fn Tryz.prog 18 [ku p,ku 0] [ku 0,ku 0,iN 3]:=by
 have e1:decide (((0:Nat):Int)=0)=true:=rfl;rw[fF];refine aJ (fn:=Tryz.f18) ?_;simp -dsimp only[go_sem,az,e1];rfl
theorem yH {p q:KP} {v:Nat} (hq0:q≠0) (hlt:aa p<aa q) (hq:PW v q) (hv:v<=1000) (hs:aa p<=1000) (hs':aa q<=1000):Fn Tryz.prog 18 [ku p,ku q] [ku 0,ku p,iN 0]:=by
 have e1:decide ((aa q:Int)=0)=false:=aG aw;have sq:=aR hq0;have hlast:(aj q)[aa q-1]?=some (lc q):=by rw[aD (by rw[aZ];omega),hO];rfl
 have el:(aa q:Int)-1=((aa q-1:Nat):Int):=aw;rw[fF];refine aJ (fn:=Tryz.f18) ?_;simp -dsimp only[go_sem,az,aZ,e1];refine co (pF ((aj p).map kr) (s7 _) (by simp[aZ];omega)) ?_;simp -dsimp only[go_sem,az,aZ];refine aK (cB 0 aH) ?_;simp -dsimp only[go_sem,az,aZ]
 repeat(refine And.intro aw ?_)
 rw[show max (0:Int) ((aa p:Int)-(aa q:Int)+1)=0 by omega];refine co (De (kr (kn 0))) ?_;simp -dsimp only[go_sem,az,aZ];refine ap 12 [9] false true ?_;simp -dsimp only[go_sem];refine aK (cB 1 aH) ?_;simp -dsimp only[go_sem,az,aZ,el]
 repeat(refine And.intro aw ?_)
 refine aP hlast ?_;simp -dsimp only[go_sem];have hl0:=bN hq0;have hlw:FB v (Alg.inv (lc q)):=(hq _).inv hl0;have hc:kn 1*Alg.inv (lc q)=Alg.inv (lc q):=by rw[d7,one_mul]
 refine aQ (args':=[iK (kn 1),iK (lc q)]) rfl (vB ib ((gG (w:=0) aH).mono aw) ((hq _).mono hv) hl0 (by rw[hc];exact hlw.mono hv)) ?_;rw[hc];simp -dsimp only[go_sem];refine aQ (args':=[iK (Alg.inv (lc q)),iN 0]) rfl (qM _ 0) ?_;simp -dsimp only[go_sem];refine⟨aH,?_⟩;refine bt [(10,12),(42,84)] [(12,12)] [] (fun m τ β ε=>m=0/\τ 10 = .i (iN (-1))) (fun e τ β ε=>e = .exit 0) 0 ?_ ?_ ?_
 ·exact⟨rfl,rfl⟩
 ·rintro m τ β ε π hK hKB hKE ⟨rfl,h10⟩;have hA:decide ((0:Int) <= -1)=false:=rfl;simp -dsimp only[go_sem,h10,hA];exact⟨(aA hK),hKB,hKE⟩
 ·rintro e τ β ε π hK hKB hKE rfl;have k8:τ 8 = .sl 27 1 0:=(hK 8 rfl).trans rfl;have k7:τ 7 = .sl 17 1 (aa p):=by rw[hK 7 aH];simp -dsimp only[go_sem,az,aZ]
  have r27:ε 27=⟨1,2,[],false,true⟩:=by rw[hKE 27 aH];simp -dsimp only[go_sem];rfl
  have r17:∃ m,ε 17=⟨1,2,(aj p).map kr,m,true⟩:=⟨_,by rw[hKE 17 aH];simp -dsimp only[go_sem];rfl⟩;obtain⟨mm,r17⟩:=r17;refine⟨_,bA.refl _,?_⟩;simp -dsimp only[go_sem,k8,k7,r27,r17];refine ao (kq [] au) rfl ?_;simp -dsimp only[go_sem,k7,r17];refine aQ (args':=[kl (aj p)]) ?_ (kq (aj p) (by rw[aZ];omega)) ?_
  ·rw[List.take_of_length_le (by simp[aZ])]
  have e5:dO (aj p)=aj p:=by rw[gL,DX]
  rw[e5];simp -dsimp only[go_sem];rfl
structure DvS (p q:KP) (w v n r:Nat) (Q R:KP):Prop where
 eq:p=Q*q+R
 szR:aa R<=r+aa q-1
 szQ:aa Q<=n
 low:∀ j,j<r->Q.c j=0
 w:PW (wD w v (n-r)) R
set_option maxHeartbeats 2000000 in
theorem yG {p q:KP} {w v n:Nat} (hq0:q≠0) (hle:aa q<=aa p) (hn:n=aa p-aa q+1) (hp:PW w p) (hq:PW v q) (hb:wD w v n<=1000) (hs:aa p<=1000) (hs':aa q<=1000):Fn Tryz.prog 18 [ku p,ku q] [ku (qu p q),ku (ab p q),iN 0]:=by
 have e1:decide ((aa q:Int)=0)=false:=aG (by have:=aR hq0;omega);have sq:=aR hq0;have hw:w<=1000:=ax (jt w v (Nat.zero_le n)) hb;have hv1:2*v+1<=1000:=by
  have:=jt w v (show 1<=n by omega);simp only[wD]at this;omega
 have hlast:(aj q)[aa q-1]?=some (lc q):=by rw[aD (by rw[aZ];omega),hO];rfl
 have el:(aa q:Int)-1=((aa q-1:Nat):Int):=aw;have hrep:=wZ (kr (kn 0)) rfl n aw aw;have erep:List.replicate n (kr (kn 0))=(dR n (0:KP)).map kr:=by
  rw[fS];refine List.ext_getElem (by simp[dR]) fun i h1 h2=>?_;simp[dR];rfl
 have eem:∀(m:Nat) (r:KP),0<m->(!(List.map kr (dR m r)).isEmpty)=true:=by
  intro m r hm;obtain⟨m,rfl⟩:∃ m',m=m'+1:=⟨m-1,aw⟩;simp[dR,List.range_succ]
 have eem2:(!(List.map kr (aj p)).isEmpty)=true:=by rw[<-xC rfl];exact eem _ _ aw
 rw[erep]at hrep;have hl0:=bN hq0;have hlw:FB v (Alg.inv (lc q)):=(hq _).inv hl0;have hc:kn 1*Alg.inv (lc q)=Alg.inv (lc q):=by rw[d7,one_mul]
 refine aJ (fn:=Tryz.f18) ?_;simp -dsimp only[go_sem,az,aZ,e1];refine co (pF ((aj p).map kr) (s7 _) (by simp[aZ];omega)) ?_;simp -dsimp only[go_sem,az,aZ];refine aK (cB 0 aH) ?_;simp -dsimp only[go_sem,az,aZ]
 repeat(refine And.intro aw ?_)
 rw[show max (0:Int) ((aa p:Int)-(aa q:Int)+1)=(n:Int)by omega];refine co hrep ?_;simp -dsimp only[go_sem,az,aZ,eD];refine ap 12 [9] false true ?_;simp -dsimp only[go_sem];refine aK (cB 1 aH) ?_;simp -dsimp only[go_sem,az,aZ,el]
 repeat(refine And.intro aw ?_)
 refine aP hlast ?_;simp -dsimp only[go_sem];refine aQ (args':=[iK (kn 1),iK (lc q)]) rfl (vB ib ((gG (w:=0) aH).mono aw) ((hq _).mono aw) hl0 (by rw[hc];exact hlw.mono aw)) ?_;rw[hc];simp -dsimp only[go_sem];refine aQ (args':=[iK (Alg.inv (lc q)),iN 0]) rfl (qM _ 0) ?_;simp -dsimp only[go_sem,eD,az]
 repeat(refine And.intro aw ?_)
 refine bt [(10,12),(42,84)] [(12,12)] [(17,17),(27,27)] (fun m τ β ε=>∃(r:Nat) (Q R:KP),m=r/\r<=n/\τ 10 = .i (iN ((r:Int)-1))/\DvS p q w v n r Q R/\ε 17=⟨1,2,(dR (aa p) R).map kr,true,true⟩/\ε 27=⟨1,2,(dR n Q).map kr,true,true⟩)
  (fun e τ β ε=>e = .exit 0/\∃ Q R:KP,DvS p q w v n 0 Q R/\ε 17=⟨1,2,(dR (aa p) R).map kr,true,true⟩/\ε 27=⟨1,2,(dR n Q).map kr,true,true⟩) n ?_ ?_ ?_
 ·refine⟨n,0,p,rfl,ay _,by simp -dsimp only[go_sem,eD,az],⟨by rw[zero_mul,zero_add],aw,by rw[aM.2 rfl];omega,fun _ _=>rfl,by rw[Nat.sub_self];exact hp⟩,?_,?_⟩
  ·simp -dsimp only[go_sem];rw[eem2,xC rfl]
  ·simp -dsimp only[go_sem];rw[eem n 0 aw]
 ·rintro m τ β ε π hK hKB hKE ⟨r,Q,R,rfl,hr,h10,hD,h17,h27⟩;have k8:τ 8 = .sl 27 1 n:=by rw[hK 8 aH];simp -dsimp only[go_sem,eD,az]
  have k7:τ 7 = .sl 17 1 (aa p):=by rw[hK 7 aH];simp -dsimp only[go_sem,az,aZ]
  have k9:τ 9 = .bp 9 1 0:=(hK 9 rfl).trans rfl;have b9:β 9=⟨1,kr (Alg.inv (lc q))⟩:=(hKB 9 rfl).trans rfl;have k1:τ 1 = .i (ku q):=(hK 1 rfl).trans rfl;cases m with
  | zero =>
   have hA:decide ((0:Int)<=((0:Nat):Int)-1)=false:=rfl;simp -dsimp only[go_sem,h10,hA];exact⟨(aA hK),hKB,hKE,Q,R,hD,h17,h27⟩
  | succ i =>
   have er:((i+1:Nat):Int)-1=(i:Int):=aw;rw[er]at h10;have hA:decide ((0:Int)<=(i:Int))=true:=aF aw;have ei:((i+aa q:Nat):Int)-1=((i+aa q-1:Nat):Int):=aw;have hg:=ln (n:=aa p) (j:=i+aa q-1) R aw;obtain⟨W,hW⟩:∃ W,W=wD w v (n-(i+1)):=⟨_,rfl⟩;have hWn:2*W+2*v+1<=1000:=by
    have h1:=jt w v (show n-(i+1)+1<=n by omega);simp only[wD]at h1;omega
   have hRw:=hD.w;rw[<-hW]at hRw;obtain⟨c,hcd⟩:∃ c,c=R.c (i+aa q-1)*Alg.inv (lc q):=⟨_,rfl⟩;have hcw:FB (W+v) c:=by rw[hcd];exact(hRw _).mul hlw
   simp -dsimp only[go_sem,h10,hA];refine ap 13 [] false true ?_;simp -dsimp only[go_sem,h10,k8,k7,k9,b9,k1,h17,h27,az,aZ,ei]
   repeat(refine And.intro aw ?_)
   refine aP hg ?_;simp -dsimp only[go_sem,h10,k8,k7,k9,b9,k1,h17,h27];refine aQ (args':=[iK (R.c (i+aa q-1)),iK (Alg.inv (lc q))]) rfl (kt ib ((hRw _).mono aw) (hlw.mono aw) (by rw[<-hcd];exact hcw.mono aw)) ?_;rw[<-hcd];have hgq:=ln (n:=n) (j:=i) Q aw;simp -dsimp only[go_sem,h10,k8,k7,k9,b9,k1,h17,h27];refine⟨aw,aP hgq ?_⟩;simp -dsimp only[go_sem,h10,k8,k7,k9,b9,k1,h17,h27,az,aZ];have hQ0:Q.c i=0:=hD.low i aw;obtain⟨Q',hQ'⟩:∃ Q',Q'=Q+mon i c:=⟨_,rfl⟩;have eQ:(dR n Q).set i c=dR n Q':=by
    rw[hQ',<-zz,hQ0,zero_add]
   have hQc:Q'.c i=c:=by rw[hQ',ce,bY,if_pos rfl,hQ0,zero_add]
   have eset:∀ x,((dR n Q).map kr).set i (kr x)=((dR n Q).set i x).map kr:=fun x=>by rw[List.map_set]
   refine a8 [(11,12),(61,84)] [(12,12)] [(17,17)] (fun m τ β ε=>∃ k:Nat,m=aa q-k/\k<=aa q/\τ 61 = .i (iN k)/\ε 17=⟨1,2,(dR (aa p) (R-mon i c*tk q k)).map kr,true,true⟩)
    (fun e τ β ε=>e = .exit 2/\ε 17=⟨1,2,(dR (aa p) (R-mon i c*q)).map kr,true,true⟩) (aa q) ?_ ?_ ?_
   ·exact⟨0,aw,aw,rfl,by simp -dsimp only[go_sem,h17];rw[l5,mul_zero,sub_zero]⟩
   ·rintro m2 τ2 β2 ε2 π2 hK2 hKB2 hKE2 ⟨k,hm2,hk,h61,h17'⟩;have q60:τ2 60 = .i (iN (aa q)):=by rw[hK2 60 aH];simp -dsimp only[go_sem,az,aZ]
    have q59:τ2 59 = .i (ku q):=by rw[hK2 59 aH];simp -dsimp only[go_sem,k1]
    have q7:τ2 7 = .sl 17 1 (aa p):=(hK2 7 rfl).trans k7;have q8:τ2 8 = .sl 27 1 n:=(hK2 8 rfl).trans k8;have q10:τ2 10 = .i (iN i):=(hK2 10 rfl).trans h10;have q27:ε2 27=⟨1,2,(dR n Q').map kr,true,true⟩:=by
     rw[hKE2 27 aH];simp -dsimp only[go_sem];rw[<-eQ,List.map_set];rfl
    by_cases hlt2:k<aa q
    ·have hA2:(k:Int)<(aa q:Int):=aw;have hg2:(aj q)[k]?=some (q.c k):=by rw[aD (by rw[aZ];exact hlt2),hO]
     have eik:(i:Int)+(k:Int)=((i+k:Nat):Int):=aw;have hg3:=ln (n:=aa p) (j:=i+k) (R-mon i c*tk q k) aw;have hg4:=ln (n:=n) (j:=i) Q' aw;have hPw:∀ k,PW (2*W+2*v+1) (R-mon i c*tk q k):=fun k=>(hRw.sub (ut hcw (Qd hq))).mono aw;have hcq:FB (W+v+v) (c*q.c k):=hcw.mul (hq k);have estep:(R-mon i c*tk q k).c (i+k)-c*q.c k=(R-mon i c*tk q (k+1)).c (i+k):=by
      rw[oh,mul_add,dV,i9,i9,ce,bY,if_pos rfl];exact ring [R.c (i+k),(mon i c*tk q k).c (i+k),c,q.c k]
     simp -dsimp only[go_sem,h61,q60,q59,hA2];refine aP hg2 ?_;simp -dsimp only[go_sem,h61,q60,q59,hA2];refine ap 18 [] false true ?_;simp -dsimp only[go_sem,h61,q60,q59,hA2,q7,q8,q10,h17',q27,eik]
     repeat(refine And.intro aw ?_)
     refine aP hg3 ?_;simp -dsimp only[go_sem,h61,q60,q59,hA2,q7,q8,q10,h17',q27,eik];refine⟨aw,aP hg4 ?_⟩;simp -dsimp only[go_sem,h61,q60,q59,hA2,q7,q8,q10,h17',q27,eik];refine aQ (args':=[iK (Q'.c i),iK (q.c k)]) rfl (kt ib (by rw[hQc];exact hcw.mono aw) ((hq _).mono aw) (by rw[hQc];exact hcq.mono aw)) ?_;rw[hQc];simp -dsimp only[go_sem,h61,q60,q59,hA2,q7,q8,q10,h17',q27,eik];refine aQ (args':=[iK ((R-mon i c*tk q k).c (i+k)),iK (c*q.c k)]) rfl (KH ib ((hPw k _).mono hWn) (hcq.mono aw) (by rw[estep];exact(hPw (k+1) _).mono hWn)) ?_;rw[estep];simp -dsimp only[go_sem,h61,q60,q59,hA2,q7,q8,q10,h17',q27,eik];refine⟨aw,aP hg3 ?_⟩;simp -dsimp only[go_sem,h61]
     repeat(refine And.intro aw ?_)
     refine again (aa q-(k+1)) aw ⟨(aA hK2),(aA hKB2),(aA hKE2),k+1,rfl,aw,rfl,?_⟩;simp -dsimp only[go_sem,h17'];have e6:(dR (aa p) (R-mon i c*tk q k)).set (i+k) ((R-mon i c*tk q (k+1)).c (i+k))=dR (aa p) (R-mon i c*tk q (k+1)):=by
      refine FQ (fun j hj=>?_) rfl;rw[oh,mul_add,dV,i9,i9,ce,bY,if_neg hj,add_zero]
     rw[<-e6,List.map_set];rfl
    ·have hA2:¬ (k:Int)<(aa q:Int):=aw;obtain rfl:k=aa q:=aw;simp -dsimp only[go_sem,h61,q60,hA2];exact⟨(aA hK2),hKB2,hKE2,by rw[h17',tN (ay _)]⟩
   ·rintro e τ2 β2 ε2 π2 hK2 hKB2 hKE2 ⟨rfl,h17'⟩;have q10:τ2 10 = .i (iN i):=(hK2 10 rfl).trans h10;have q27:ε2 27=⟨1,2,(dR n Q').map kr,true,true⟩:=by
     rw[hKE2 27 aH];simp -dsimp only[go_sem];rw[<-eQ,List.map_set];rfl
    have kO:=Kp.step2 hK hK2 (by intro n;simp[inR]<;>omega) (aA hK);have kB:=Kp.step2 hKB hKB2 (by intro n;simp[inR]<;>omega) hKB;have kE:=Kp.step2 hKE hKE2 (by intro n;simp[inR]<;>omega) (aA hKE);simp -dsimp only[go_sem,q10]
    repeat(refine And.intro aw ?_)
    refine again i aw ⟨(aA kO),kB,kE,i,Q',R-mon i c*q,rfl,aw,rfl,?_,h17',q27⟩;refine⟨?_,?_,?_,fun j hj=>?_,?_⟩
    ·rw[hQ',add_mul];exact lc1 1 hD.eq (ring [p,Q,q,R,mon i c])
    ·refine cm fun j hj=>?_;rw[i9,cu,if_pos aw];by_cases ej:j=i+aa q-1
     ·subst ej;rw[show i+aa q-1-i=aa q-1 by omega,hcd,mul_assoc];show _-_*(_*lc q)=0;rw[cA hl0,mul_one,sub_self]
     ·have:=hD.szR;rw[aO (by omega:aa R<=j),aO (p:=q) aw,mul_zero,sub_self]
    ·rw[hQ'];refine dh hD.szQ (cm fun j hj=>?_);rw[bY,if_neg aw]
    ·rw[hQ',ce,bY,if_neg aw,hD.low j aw,add_zero]
    ·rw[show n-i=n-(i+1)+1 by omega];simp only[wD];rw[<-hW];exact(hRw.sub (ut hcw hq)).mono aw
 ·rintro e τ β ε π hK hKB hKE ⟨rfl,Q,R,hD,h17,h27⟩;have k8:τ 8 = .sl 27 1 n:=by rw[hK 8 aH];simp -dsimp only[go_sem,eD,az]
  have k7:τ 7 = .sl 17 1 (aa p):=by rw[hK 7 aH];simp -dsimp only[go_sem,az,aZ]
  have hszR:=hD.szR;obtain⟨eQ,eR⟩:=md hD.eq aw;refine⟨_,bA.refl _,?_⟩;simp -dsimp only[go_sem,k8,k7,h17,h27];rw[List.take_of_length_le (by simp[eD])];refine ao (kq (dR n Q) (by rw[eD];omega)) rfl ?_;rw[DL hD.szQ];simp -dsimp only[go_sem,k8,k7,h17,h27];rw[List.take_of_length_le (by simp[eD])];refine ao (kq (dR (aa p) R) (by rw[eD];omega)) rfl ?_;rw[DL aw];simp -dsimp only[go_sem,eQ,eR]
theorem DvS.step {p q:KP} {w v n i:Nat} {Q R:KP} (hD:DvS p q w v n (i+1) Q R) (hi:i+1<=n) (hn:n=aa p+1-aa q) (hq0:q≠0) (hq:PW v q) :
  DvS p q w v n i (Q+mon i (R.c (i+aa q-1)*Alg.inv (lc q))) (R-mon i (R.c (i+aa q-1)*Alg.inv (lc q))*q):=by
 have sq:=aR hq0;have hl0:=bN hq0;have hlw:FB v (Alg.inv (lc q)):=(hq _).inv hl0;have hcw:FB (wD w v (n-(i+1))+v) (R.c (i+aa q-1)*Alg.inv (lc q)):=(hD.w _).mul hlw;refine⟨?_,?_,?_,fun j hj=>?_,?_⟩
 ·rw[add_mul];exact lc1 1 hD.eq (ring [p,Q,q,R,mon i (R.c (i+aa q-1)*Alg.inv (lc q))])
 ·refine cm fun j hj=>?_;rw[i9,cu,if_pos aw];by_cases ej:j=i+aa q-1
  ·subst ej;rw[show i+aa q-1-i=aa q-1 by omega,mul_assoc];show _-_*(_*lc q)=0;rw[cA hl0,mul_one,sub_self]
  ·have:=hD.szR;rw[aO (by omega:aa R<=j),aO (p:=q) aw,mul_zero,sub_self]
 ·refine dh hD.szQ (cm fun j hj=>?_);rw[bY,if_neg aw]
 ·rw[ce,bY,if_neg aw,hD.low j aw,add_zero]
 ·rw[show n-i=n-(i+1)+1 by omega];simp only[wD];exact(hD.w.sub (ut hcw hq)).mono aw
theorem Pn {p q:KP} {w v n:Nat} (hn:n=aa p+1-aa q) (hle:aa q<=aa p) (hq0:q≠0) (hp:PW w p) (hq:PW v q):∀ s,s<=n->∃ Q R:KP,DvS p q w v n (n-s) Q R/\PW (wD w v s) Q:=by
 have sq:=aR hq0;intro s
 induction s with
 | zero=>exact fun _=>⟨0,p,⟨by rw[zero_mul,zero_add],aw,by rw[aM.2 rfl];omega,fun _ _=>rfl,by rw[Nat.sub_zero,Nat.sub_self];exact hp⟩,fun i=>dY _⟩
 | succ s ih =>
  intro hs;obtain⟨Q,R,hD,hQ⟩:=ih aw;have e:n-s=(n-(s+1))+1:=aw;rw[e]at hD;refine⟨_,_,hD.step aw hn hq0 hq,fun j=>?_⟩;rw[ce,bY];split
  ·rename_i ej;rw[hD.low j aw,zero_add];have hw:=hD.w (n-(s+1)+aa q-1);rw[show n-(n-(s+1)+1)=s by omega]at hw;refine(hw.mul ((hq _).inv (bN hq0))).mono ?_;simp only[wD];omega
  ·rw[add_zero];exact(hQ j).mono (jt w v aw)
theorem uZ {p q:KP} (h:aa p<aa q):qu p q=0/\ab p q=p:=md (by rw[zero_mul,zero_add]) h
theorem Ri {p q:KP} {w v:Nat} (hq0:q≠0) (hp:PW w p) (hq:PW v q):PW (wD w v (aa p+1-aa q)) (qu p q)/\PW (wD w v (aa p+1-aa q)) (ab p q)/\aa (qu p q)<=aa p+1-aa q/\aa (ab p q)<aa q:=by
 have sq:=aR hq0;refine⟨?_,?_,?_,(qure hq0).2⟩
 all_goals
  rcases Nat.lt_or_ge (aa p) (aa q)with h|h
  ·obtain⟨h1,h2⟩:=uZ h
   first
   | (rw[h1];exact fun i=>dY _)
   | (rw[h2];exact hp.mono (jt w v (Nat.zero_le _)))
   | (rw[h1,aM.2 rfl];omega)
  ·obtain⟨Q,R,hD,hQ⟩:=Pn rfl h hq0 hp hq (aa p+1-aa q) (ay _);rw[Nat.sub_self]at hD;have hszR:=hD.szR;obtain⟨eQ,eR⟩:=md hD.eq aw
   first
   | (rw[eQ];exact hQ)
   | (rw[eR];exact hD.w)
   | (rw[eQ];exact hD.szQ)
theorem vx {p q:KP} {w v:Nat} (hq0:q≠0) (hp:PW w p) (hq:PW v q) (hb:wD w v (aa p+1-aa q)<=1000) (hv:v<=1000) (hs:aa p<=1000) (hs':aa q<=1000):Fn Tryz.prog 18 [ku p,ku q] [ku (qu p q),ku (ab p q),iN 0]:=by
 rcases Nat.lt_or_ge (aa p) (aa q)with h|h
 ·obtain⟨h1,h2⟩:=uZ h;rw[h1,h2];exact yH hq0 h hq hv hs hs'
 ·exact yG hq0 h aw hp hq hb hs hs'
theorem Kw {p q:KP} {w v:Nat} (hq0:q≠0) (hp:PW w p) (hq:PW v q) (hb:wD w v (aa p+1-aa q)<=1000) (hv:v<=1000) (hs:aa p<=1000) (hs':aa q<=1000):Fn Tryz.prog 81 [ku p,ku q] [ku (qu p q)]:=Kv (vx hq0 hp hq hb hv hs hs')
theorem KReP {p q:KP} {w v:Nat} (hq0:q≠0) (hp:PW w p) (hq:PW v q) (hb:wD w v (aa p+1-aa q)<=1000) (hv:v<=1000) (hs:aa p<=1000) (hs':aa q<=1000):Fn Tryz.prog 82 [ku p,ku q] [ku (ab p q)]:=M8 (vx hq0 hp hq hb hv hs hs')
theorem Jb (l:Nat) (c d:List C):dH l [c,d]=⟨upd (upd (upd (fun _ => .any) 0 (sc (.func (.yield l) #[] #[]))) 1 (.bp 1000 1 0)) 2 (.bp 1001 1 0),upd (upd mS 1000 ⟨1,c⟩) 1001 ⟨1,d⟩,oQ,nJ⟩:=by
 have e1:(dH l [c,d]).t=upd (upd (upd (fun _ => .any) 0 (sc (.func (.yield l) #[] #[]))) 1 (.bp 1000 1 0)) 2 (.bp 1001 1 0):=by
  funext n
  match n with
  | 0=>rfl
  | 1=>rfl
  | 2=>rfl
  | n+3=>rw[aT _ _ aw,aT _ _ aw,aT _ _ aw];rfl
 have e2:(dH l [c,d]).b=upd (upd mS 1000 ⟨1,c⟩) 1001 ⟨1,d⟩:=by
  funext n;by_cases e:n=1001
  ·subst e;rfl
  ·rw[aT _ _ e];by_cases e':n=1000
   ·subst e';rfl
   ·rw[aT _ _ e'];simp only[dH];split
    ·rw[List.getElem?_eq_none ar];rfl
    ·rfl
 show St.mk (dH l [c,d]).t (dH l [c,d]).b _ _=_;rw[e1,e2];rfl
def two (β:Nat->BX) (c d:List C):Prop:=β 1000=⟨1,c⟩/\β 1001=⟨1,d⟩/\∀ t,t≠1000->t≠1001->(β t).gen=0
theorem two.lone {τ:Nat->AV} {β:Nat->BX} {c d:List C} {n:Nat} (h:two β c d) (hn:n=2):lone n ⟨τ,β,oQ,nJ⟩:=by
 subst hn;refine⟨fun t ht=>?_,fun _=>rfl,fun _=>rfl⟩;by_cases e:t=1000
 ·subst e;exact⟨aw,aw,by show(β 1000).gen=1;rw[h.1]⟩
 ·by_cases e':t=1001
  ·subst e';exact⟨aw,aw,by show(β 1001).gen=1;rw[h.2.1]⟩
  ·have:=h.2.2 t e e';have ht':0<(β t).gen:=ht;omega
theorem HG (c d:List C):two (upd (upd mS 1000 ⟨1,c⟩) 1001 ⟨1,d⟩) c d :=
 ⟨by rw[aT _ _ aw,aN],aN _ _ _,fun t h h'=>by rw[aT _ _ h',aT _ _ h];rfl⟩
theorem qz (x y:C):FnC Tryz.prog 77 [.c x,.c y] 117 [[y],[x]]:=by
 refine rT kd (fn:=Tryz.f77) av rfl rfl rfl av au av ?_;simp -dsimp only[go_sem,kg];refine ms (ts:=[(3,1),(2,1)]) (by simp -dsimp only[go_sem]) (by simp -dsimp only[go_sem]) ?_;simp -dsimp only[go_sem,x9];exact⟨[(3,1),(2,1)],rfl,au,au,rfl⟩
noncomputable abbrev kc (p:KP):C := .lst ((aj p).map kr)
noncomputable def euI (a b:KP):List (List IV):=(eu a b).map fun x=>[ku x.1,ku x.2]
theorem oS (a0 b0:KP) (hE:∀ x∈eu a0 b0,Fn Tryz.prog 82 [ku x.1,ku x.2] [ku (ab x.1 x.2)]):KA Tryz.prog 117 [[kc b0],[kc a0]] (euI a0 b0):=by
 refine pD (fn:=Tryz.f117) av rfl rfl rfl av au av ?_;intro c hc hbl hL;rw[Jb];have hb2:c.bs.length=2:=hbl;refine WPi.block (WPi.loop (fun n s k=>∃ τ β a b,s=⟨τ,β,oQ,nJ⟩/\τ 0=sc (.func (.yield c.l) #[] #[])/\τ 1 = .bp 1000 1 0/\τ 2 = .bp 1001 1 0/\two β [kc b] [kc a]/\n=aa b/\∃ j,k=some j/\j<=(eu a0 b0).length/\(eu a0 b0).drop j=eu a b) (n:=aa b0) ⟨_,_,a0,b0,rfl,rfl,rfl,rfl,HG _ _,rfl,0,rfl,Nat.zero_le _,rfl⟩ ?_);rintro n s k ⟨τ,β,a,b,rfl,h0,h1,h2,hT,rfl,j,rfl,hjle,hj⟩;obtain⟨t1,t2,t3⟩:=id hT;by_cases hb:b=0
 ·subst hb;refine WPi.seq ?_;refine WPi.seq ?_;refine WPi.yreg_no hc kd 7 11 rfl rfl rfl fun K1 hK1=>?_;have e1:decide ((0:Int)<((0:Nat):Int))=false:=rfl;simp -dsimp only[go_sem,h0,h1,h2,t1,t2,qt,az,e1];refine⟨hT.lone hb2,rfl,hK1 _ (hT.lone hb2) ?_⟩;refine WPi.end_k hc kd fun K hK=>?_;simp -dsimp only[go_sem];refine hK _ _ (hT.lone hb2) ?_;refine⟨.inl rfl,.inl ?_⟩;rw[jz]at hj;have hlen:=congrArg List.length hj;simp only[List.length_drop,List.length_nil]at hlen;have hjl:j<=(eu a0 b0).length:=hjle;simp only[euI,az];congr 1;omega
 ·have hb0:=aR hb;have e1:decide ((0:Int)<(aa b:Int))=true:=aF aw;rw[kK hb]at hj;have hjlt:j<(eu a0 b0).length:=by
   have hlen:=congrArg List.length hj;simp only[List.length_drop,List.length_cons]at hlen;omega
  have hjg:(eu a0 b0)[j]?=some (a,b):=by
   have:=congrArg (fun l=>l[0]?) hj;simpa using this
  refine WPi.seq ?_;refine WPi.seq ?_;refine WPi.yreg_k hc kd 7 11 j [ku a,ku b] rfl rfl rfl rfl (by rw[hL,euI,List.getElem?_map,hjg];rfl) fun K1 K2 hK1 hK2=>?_;simp -dsimp only[go_sem,h0,h1,h2,t1,t2,aZ,az,e1];refine⟨hT.lone hb2,rfl,?_⟩;refine⟨hK1 _ (hT.lone hb2) ?_,hK2 _ (hT.lone hb2) ?_⟩
  ·refine WPi.end_k hc kd fun K hK=>?_;simp -dsimp only[go_sem];refine hK _ _ (hT.lone hb2) ?_;refine WPi.end_k hc kd fun K hK=>?_;simp -dsimp only[go_sem,h1,h2,t1,t2];refine ap 4 [] false true ?_;simp -dsimp only[go_sem,h1,h2,t1,t2];refine ao (hE (a,b) (List.mem_of_getElem? hjg)) rfl ?_;simp -dsimp only[go_sem,h1,h2,t1,t2];have hT2:two (upd (upd β 1001 ⟨1,[kc b]⟩) 1000 ⟨1,[kc (ab a b)]⟩) [kc (ab a b)] [kc b] :=
    ⟨aN _ _ _,by rw[aT _ _ aw,aN],fun t h h'=>by rw[aT _ _ h,aT _ _ h'];exact t3 t h h'⟩
   refine hK _ _ (hT2.lone hb2) ⟨aa (ab a b),(qure hb).2,_,_,b,ab a b,rfl,h0,h1,h2,hT2,rfl,j+1,rfl,hjlt,?_⟩;rw[<-List.drop_drop,hj];rfl
  ·refine WPi.end_k hc kd fun K hK=>?_;simp -dsimp only[go_sem];refine hK _ _ (hT.lone hb2) ?_;exact⟨.inl rfl,.inr rfl⟩
theorem En (a b:KP):(euI a b).length=(eu a b).length:=by simp[euI]
theorem Eo {a b:KP} {k:Nat} {x:List IV} (h:(euI a b)[k]?=some x):∃ y,(eu a b)[k]?=some y/\x=[ku y.1,ku y.2]:=by
 rw[euI,List.getElem?_map]at h;cases hy:(eu a b)[k]? with
 | none=>rw[hy]at h;simp at h
 | some y=>rw[hy]at h;exact⟨y,rfl,(Option.some.inj h).symm⟩
noncomputable def euK (a b:KP) (k:Nat):KP:=((((eu a b).take k).getLast?).map (·.2)).getD a
theorem Jy {a b:KP} {k:Nat} {y:KP×KP} (h:(eu a b)[k]?=some y):euK a b (k+1)=y.2:=by
 have hk:=(List.getElem?_eq_some_iff.1 h);rw[euK,aq hk.1,hk.2,List.getLast?_concat];rfl
theorem yE {a b:KP} (hE:∀ x∈eu a b,Fn Tryz.prog 82 [ku x.1,ku x.2] [ku (ab x.1 x.2)]) (hM:Fn Tryz.prog 53 [ku (euL a b)] [ku (mn (euL a b))]):Fn Tryz.prog 24 [ku a,ku b] [ku (ai a b)]:=by
 rw[<-Ph _ a b (ay _)];refine oI (fn:=Tryz.f24) av rfl rfl rfl av au av ?_;refine WPn.seq_k kd fun K hK _=>?_;simp -dsimp only[go_sem];refine hK _ ?_;refine WPn.seq_k kd fun K hK _=>?_;simp -dsimp only[go_sem];refine hK _ ?_;refine WPn.seq ?_;refine WPn.seq_k kd fun K hK _=>?_;simp -dsimp only[go_sem];refine oB [1000,1001] rfl rfl rfl (qz (kc a) (kc b)) au rfl ?_;rw[AC _ _ _ _ _ aH];simp -dsimp only[go_sem];refine hK _ (WPn.block (WPn.rangeFunc (ts:=[(1000,1),(1001,1)]) [5] (fun k cs=>cs=[[kc (euK a b k)]]) (fun _ _=>False) (by simp -dsimp only[go_sem]) (by simp -dsimp only[go_sem]) au (by simp -dsimp only[go_sem]) (oS a b hE) au (by simp -dsimp only[go_sem];decide) ?_ ?_ ?_ ?_ ?_))
 ·simp -dsimp only[go_sem];rfl
 ·intro x hx;obtain⟨p,-,rfl⟩:=List.mem_map.1 hx;rfl
 ·rintro k x cs hx rfl -;obtain⟨y,hy,rfl⟩:=Eo hx;generalize hs:bV _ _ _ _ _=s;obtain⟨τ,β,ε,π⟩:=s;have h13:τ 13 = .i (ku y.2):=by
   rw[sJ hs];simp -dsimp only[go_sem,bV,jm]
  have h5:τ 5 = .bp 5 1 0:=by
   rw[sJ hs];simp -dsimp only[go_sem,bV,jm];rw[pb]<;>simp -dsimp only[go_sem]
  have b5:β 5=⟨1,[kc (euK a b k)]⟩:=by
   rw[C9 hs];simp -dsimp only[go_sem,bV,fe]
  clear hs;refine WP.end_k kd fun K hK=>?_;simp -dsimp only[go_sem,h13];refine hK _ _ ⟨rfl,?_⟩;refine WP.end_k kd fun K hK=>?_;simp -dsimp only[go_sem,h13,h5,b5];refine hK _ _ ⟨by simp -dsimp only[go_sem],?_⟩;simp -dsimp only[go_sem];rw[Jy hy]
 ·rintro cs γs rfl-hγ;obtain⟨g,g',rfl⟩:∃ g g',γs=[g,g']:=by
   match γs,hγ with
   | [g,g'],_=>exact⟨g,g',rfl⟩
  rw[iP,jw];refine WPn.end_k kd fun K hK=>?_;dsimp only[List.map,setB];have e6:euK a b (euI a b).length=euL a b:=by
   rw[euK,En,List.take_length];rfl
  rw[e6];simp -dsimp only[go_sem];refine ao hM rfl ?_;simp -dsimp only[go_sem];refine hK _ _ ⟨.inr rfl,?_⟩;simp -dsimp only[go_sem]
 ·intro e cs γs _ h;exact h.elim
end Go.AM
