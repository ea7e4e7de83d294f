/- Lemmas, part 3 of 23. No condition. -/
import Derived.Test.YtcmfkhicjhliaaaGreatPZ501
import Derived.OrdersIn
import Derived.RangeFuncIn
set_option maxRecDepth 65536
set_option linter.unusedSimpArgs false
set_option linter.unusedVariables false
set_option linter.unusedSectionVars false
namespace Go.AM
section
variable {P:Program} {kind:FuncId->CK} {D:Option DI} {W0:cW} {M0:Nat->Prop} {N:Nat} {st:St} {G:Gh} {w:World} {a:Act} {o:Oper} {Q:Exit->Act->World->Prop} {δ:Dl} {K:St->Prop}
def Met (W0:cW) (M0:Nat->Prop) (N:Nat) (K:St->Prop) (a':Act) (w':World):Prop:=∃ st' G',K st'/\Sim W0 M0 N st' G' w' a'
theorem zk (S:Sim W0 M0 N st G w a) {T:TypeId} {x y:Operand} (ho:o.op = .store T x y) (h:AOp P kind D o K st):o.wp P a w (Met W0 M0 N K) Q:=by
 unfold AOp at h;rw[ho]at h;obtain⟨_,hdst,ti,v,h1,h2,h3,h4⟩:=h;obtain⟨i,d,hi,hds,rfl⟩:=bH h1;dsimp only at h3 h4;have hyr:=(lh S (S.ev y) h2).cells;have hyl:=hyr.length;have hv:=S.ev x;have hrun:∀(b off:Nat) (ys:Array Value) (U:TypeId),a.eval x = .pointer (some ⟨b,off,none⟩)->w.heap[b]?=some (.cells ys U (0,0))->off+(a.eval y).cells.toList.length<=ys.size ->
   (execOp a.eval o).run P w = .ok .skip (w.setRow b (ys.toList.take off++(a.eval y).cells.toList++ys.toList.drop (off+(a.eval y).cells.toList.length)).toArray):=by
  intro b off ys U hx hb hle;have hst:=run_storeCells_at P b off U (a.eval y).cells.toList 0 ys w hb (by simpa using hle) hyr.oneCell;simp only[Nat.add_zero]at hst;have hsz:(a.eval y).cells.size=i.size:=by rw[<-h3,hyl,Array.length_toList]
  simp[execOp,ho,Instr.storeAt,hx,Instr.sureAddr,storeVar,dU hi,hsz,hst]
 split at h4
 ·rename_i t g off e;obtain⟨hg,hg0,hle,hK⟩:=h4;rw[e]at hv;have hx:=hv.2 hg hg0;obtain⟨k1,ys,U,k2,k3⟩:=S.bx t aw;have hlen:=k3.length;simp only[Oper.wp,hrun _ off ys U hx k2 (by rw[<-hyl];simp at hlen;omega),Oper.upon];rw[hdst];subst hg;exact⟨_,G,hK,S.setBox (off:=off) hg0 hyr k2⟩
 ·rename_i t g idx off e;obtain⟨hg,hg0,hm,r,hr,hle,hK⟩:=h4;rw[e]at hv;obtain⟨b,o',hE,hx⟩:=hv.2 hg hg0;obtain⟨_,_,f3,_⟩:=S.en t aw;obtain⟨b',ys,U,k1,k2,k3,k4⟩:=f3 hm;obtain⟨rfl,rfl⟩:b=b'/\o'=0:=by rw[hE]at k1;simp at k1;exact k1
  rw[Nat.zero_add]at hx;obtain⟨hfit,hS⟩:=S.setEn (t:=t) (i:=idx) (o:=off) (xs:=v.cells) (zs:=(a.eval y).cells.toList) aw hm hr hyr aw k1 k3;simp only[Oper.wp,hrun _ _ ys U hx k3 hfit,Oper.upon];rw[hdst];exact⟨_,G,hK,hS⟩
 ·exact h4.elim
theorem iG (S:Sim W0 M0 N st G w a) (hd:∀ d,o.dst=some d->d<N) (h:AOp P kind D o K st):o.wp P a w (Met W0 M0 N K) Q:=by
 by_cases hst:∃ T x y,o.op = .store T x y
 ·obtain⟨T,x,y,ho⟩:=hst;exact zk S ho h
 ·have h':if eO kind o then D=none/\qy P o st K else ∃ δ,bu P kind D o st δ/\K (st.app o.dst δ):=by
   unfold AOp at h;split at h
   ·rename_i T x y e;exact absurd ⟨T,x,y,e⟩ hst
   ·exact h
  split at h'
  ·exact h'.2 W0 M0 N G w a Q S hd
  ·obtain⟨δ,h1,h2⟩:=h';exact Oper.wp_mono (fun a' w' ⟨G',hS⟩=>⟨_,G',h2,hS⟩) (rf S hd h1)
theorem gX (S:Sim W0 M0 N st G w a) {ops:Array Oper} {t:Bool} (h:gd ops st o=some t):Region.wanted o (yielded ops a.tmps)=t:=by
 unfold gd at h;unfold Region.wanted;split at h
 ·rename_i e;rw[e];simpa using h
 ·rename_i j want e;rw[e];split at h
  ·rename_i d hd;have hv:=S.fr d;simp only[yielded,hd,Option.bind_some];split at h
   ·rename_i b hb;cases h;rw[hb]at hv;have hv:=jW hv;have:a.tmps[d]?=some (.bool b):=by
     cases hh:a.tmps[d]? with
     | none=>rw[Array.getD_eq_getD_getElem?,hh]at hv;simp[undef]at hv
     | some v=>rw[Array.getD_eq_getD_getElem?,hh]at hv;simp at hv;rw[hv]
    simp[this]
   ·rename_i hb;cases h;rw[hb]at hv;obtain⟨ys,hy,hr⟩:=hv;have:ys = #[]:=by
     have:=hr.length;simp at this;exact Array.eq_empty_of_size_eq_zero this.symm
    subst this;cases hh:a.tmps[d]? with
    | none=>simp
    | some v =>
     rw[Array.getD_eq_getD_getElem?,hh]at hy;simp at hy;subst hy;simp
   ·simp at h
  ·simp at h
theorem jV (S:Sim W0 M0 N st G w a) {dst:Option Tmp} (hd:∀ d,dst=some d->d<N):Sim W0 M0 N (st.put dst (.tup [])) G w (a.put dst undef) :=
 S.put hd (bq.refl _ _) fun _=>⟨#[],rfl,trivial⟩
def fen (ρ:Option Nat):Fence:={ Fence.wide with round:=ρ }
theorem sH {ρ:Option Nat} {n:Nat} {f:FuncId} {args:Array Value} {w:World} {R:Ending->World->Prop}:CallsIn (fen ρ) n P f args w R↔Calls P f args w R :=
 ⟨fun h=>(callsIn_wide (n:=n)).1 h,fun h=>(callsIn_wide (n:=n)).2 h⟩
theorem BU {ρ:Option Nat} {n:Nat} {row:String} {args:Array Value} {w:World} {R:Value->World->Prop} (h:Rows P row args w R):RowsIn (fen ρ) n P row args w R :=
 fun c cs _=>let ⟨v,w',r,s⟩:=h c cs;⟨v,w',r,stepsIn_wide.2 s⟩
theorem cn {ρ:Option Nat} {K':Act->World->Prop} (hnd:∀ c,o.op ≠ .defer c) (h:o.wp P a w K' Q):o.wpIn (fen ρ) 0 P a w K' Q:=by
 refine⟨fun _ _=>trivial,?_⟩;rw[Oper.semAt_eq _ _ _ hnd];unfold Oper.wp at h;generalize (execOp a.eval o).run P w=r at *
 cases r with
 | ok n w' =>
  cases n with
  | enter f args=>exact⟨fun h=>by simp[fen,Fence.wide]at h,sH.2 h⟩
  | row row args=>exact⟨fun h=>by simp[fen,Fence.wide]at h,BU h⟩
  | round l f tmps x y=>exact h.elim
  | _=>exact h
 | halt x w'=>cases x<;>exact h
theorem yT (h:bu P kind D o st δ):∀ c,o.op ≠ .defer c:=fun c e=>by
 unfold bu at h;rw[e]at h;exact h
theorem pG (h:AOp P kind D o K st):∀ c,o.op ≠ .defer c:=fun c e=>by
 unfold AOp at h;rw[e]at h;have hs:eO kind o=false:=by unfold eO;rw[e]
 simp only[hs]at h;obtain⟨δ,h1,_⟩:=h;exact yT h1 c e
theorem po {ρ:Option Nat} {ops:Array Oper} (hN:∀(i:Nat) o,ops[i]?=some o->∀ d,o.dst=some d->d<N):∀(l:List Oper) (k:Nat) {st:St} {G:Gh} {w:World} {a:Act},(∀ i,l[i]?=ops[k+i]?) ->
  Sim W0 M0 N st G w a->jD P kind D ops l K st->(∀ a' w',Met W0 M0 N K a' w'->Q .normal a' w')->wpOpsIn (fen ρ) 0 P ops Q (List.range' k l.length) a w
 | [],k,st,G,w,a,_,S,h,hQ=>by
  simp only[List.length_nil,List.range'_zero,wpOpsIn];exact hQ _ _ ⟨st,G,h,S⟩
 | o::l,k,st,G,w,a,hl,S,h,hQ=>by
  have h0:ops[k]?=some o:=by have:=hl 0;simpa using this.symm
  have hl':∀ i,l[i]?=ops[k+1+i]?:=fun i=>by have:=hl (i+1);simpa [Nat.add_assoc,Nat.add_comm 1]using this
  simp only[List.length_cons,List.range'_succ];rw[wpOpsIn_cons];simp only[wpOpIn,h0];obtain⟨t,hg,ht,hf⟩:=h;rw[gX S hg];cases t with
  | true =>
   simp only[if_true];refine cn (pG (ht rfl)) (Oper.wp_mono ?_ (iG (Q:=Q) S (hN k o h0) (ht rfl)));rintro a' w' ⟨st',G',hK,hS⟩;exact po hN l (k+1) hl' hS hK hQ
  | false =>
   simp only[Bool.false_eq_true,if_false];exact⟨fun _ _=>trivial,po hN l (k+1) hl' (jV S (hN k o h0)) (hf rfl) hQ⟩
theorem xE {ρ:Option Nat} {ops:Array Oper} {id:Nat} (hN:∀(i:Nat) o,ops[i]?=some o->∀ d,o.dst=some d->d<N) (S:Sim W0 M0 N st G w a)
  (h:jD P kind none ops ops.toList K st) (hQ:∀ a' w',Met W0 M0 N K a' w'->Q .normal a' w'):(Code.region id ops false).wpIn (fen ρ) 0 P Q a w:=by
 refine wpIn_region ?_;have:=po (ρ:=ρ) (P:=P) (kind:=kind) (D:=none) (Q:=Q) hN ops.toList 0 (fun i=>by simp) S h hQ;rwa [Array.length_toList,<-List.range_eq_range']at this
end
theorem tJ {α:Type} (f:Nat->α) {d d':Nat} (v v':α) (h:d≠d'):upd (upd f d v) d' v'=upd (upd f d' v') d v:=by
 funext n;by_cases e:n=d
 ·subst e;rw[aT _ _ h,aN,aN]
 ·by_cases e':n=d'
  ·subst e';rw[aN,aT _ _ e,aN]
  ·rw[aT _ _ e',aT _ _ e,aT _ _ e,aT _ _ e']
theorem JW (st:St) (x y:Option Tmp) (δ δ':Dl) (h:∀ d,x=some d->y≠some d) (he:δ.ne=none\/δ'.ne=none\/(δ.kill=none/\δ'.kill=none)) :
  (st.app x δ).app y δ'=(st.app y δ').app x δ:=by
 cases x with
 | none=>rfl
 | some d =>
  cases y with
  | none=>rfl
  | some d' =>
   have hd:d≠d':=fun e=>h d rfl (by rw[e]);simp only[St.app];congr 1
   ·exact tJ _ _ _ hd
   ·cases δ.nb with
    | none=>cases δ'.nb<;>rfl
    | some cs =>
     cases δ'.nb with
     | none=>rfl
     | some cs' =>
      simp only;rw[aT _ _ (Ne.symm hd),aT _ _ hd];exact tJ _ _ _ hd
   ·rcases he with he|he|⟨h1,h2⟩
    ·simp only[he]
    ·simp only[he]
    ·simp only[h1,h2];cases δ.ne with
     | none=>cases δ'.ne<;>rfl
     | some n =>
      cases δ'.ne with
      | none=>rfl
      | some n'=>exact tJ _ _ _ hd
section
variable {P:Program} {kind:FuncId->CK} {D:Option DI} {W0:cW} {M0:Nat->Prop} {N:Nat} {st:St} {G:Gh} {w:World} {a:Act} {o:Oper} {Q:Exit->Act->World->Prop} {δ:Dl} {K:St->Prop}
def bO (ops:List Oper) (i:Nat):Option Tmp:=(ops[i]?).bind (·.dst)
def bK (ops:List Oper) (st:St) (δ:Nat->Dl) (f:Nat->Bool):Nat->St
 | 0=>st
 | i+1=>if f i then(bK ops st δ f i).app (bO ops i) (δ i)else bK ops st δ f i
theorem eY {ops:List Oper} {δ:Nat->Dl} {f g:Nat->Bool}:∀{m:Nat},(∀ j,j<m->f j=g j)->bK ops st δ f m=bK ops st δ g m
 | 0,_=>rfl
 | m+1,h=>by
  simp only[bK];rw[h m aw,eY fun j hj=>h j aw]
theorem rc {ops:List Oper} {δ:Nat->Dl} {f:Nat->Bool} {i:Nat}:∀{m:Nat},i<=m->(∀ j,i<=j->j<m->f j=false)->bK ops st δ f m=bK ops st δ f i
 | 0,h,_=>by rw[Nat.le_zero.1 h]
 | m+1,h,hf=>by
  by_cases e:i=m+1
  ·rw[e]
  ·simp only[bK];rw[hf m aw aw];exact rc aw fun j h1 h2=>hf j h1 aw
structure Kl (kind:FuncId->CK) (ops:List Oper) (k:Nat) (δ:Nat->Dl):Prop where
 dst:∀ i j,i<k->j<k->i≠j->∀ d,bO ops i=some d->bO ops j≠some d
 eff:∀ i j,i<k->j<k->i≠j->(δ i).ne=none\/(δ j).ne=none\/((δ i).kill=none/\(δ j).kill=none)
theorem np {ops:List Oper} {δ:Nat->Dl} {k:Nat} (H:Kl kind ops k δ) {f:Nat->Bool} {i:Nat} (hi:f i=false):∀{m:Nat},m<=k->i<m ->
  bK ops st δ (fun j=>f j || j == i) m=(bK ops st δ f m).app (bO ops i) (δ i)
 | 0,_,h=>by omega
 | m+1,hm,h=>by
  by_cases e:i=m
  ·subst e;simp only[bK,hi,Bool.false_or,beq_self_eq_true,if_true,Bool.false_eq_true,if_false];rw[eY (f:=fun j=>f j || j == i) (g:=f)];intro j hj;have:(j == i)=false:=by simp;omega
   simp[this]
  ·have ih:=np H hi (m:=m) aw aw;simp only[bK];have hmi:(m == i)=false:=by simp;omega
   simp only[hmi,Bool.or_false,ih];split
   ·exact(JW _ _ _ _ _ (H.dst m i aw aw aw) (H.eff m i aw aw aw)).symm
   ·rfl
theorem wV (st:St) (dst:Option Tmp) (δ:Dl) (n:Nat):(st.app dst δ).t n=if dst=some n then δ.v else st.t n:=by
 cases dst with
 | none=>simp[St.app]
 | some d =>
  simp only[St.app,Option.some.injEq];by_cases e:n=d
  ·subst e;simp[aN]
  ·rw[aT _ _ e,if_neg (fun h=>e h.symm)]
theorem NW (st:St) (dst:Option Tmp) (δ:Dl) (t:Nat) (h:dst≠some t\/δ.nb=none):(st.app dst δ).b t=st.b t:=by
 cases dst with
 | none=>rfl
 | some d =>
  simp only[St.app];cases hn:δ.nb with
  | none=>rfl
  | some cs =>
   rcases h with h|h
   ·exact aT _ _ (fun e=>h (by rw[e]))
   ·rw[hn]at h;simp at h
theorem NV (st:St) (dst:Option Tmp) (δ:Dl) (h:δ.ne=none):(st.app dst δ).e=st.e:=by
 cases dst with
 | none=>rfl
 | some d=>simp only[St.app,h]
theorem BS {ops:List Oper} {δ:Nat->Dl} {f g:Nat->Bool} {n:Nat}:∀{m:Nat},(∀ j,j<m->bO ops j=some n->f j=g j)->(bK ops st δ f m).t n=(bK ops st δ g m).t n
 | 0,_=>rfl
 | m+1,h=>by
  have ih:=BS (δ:=δ) (m:=m) fun j hj=>h j aw;simp only[bK];by_cases e:bO ops m=some n
  ·rw[h m aw e];split
   ·rw[wV,wV,if_pos e,if_pos e]
   ·exact ih
  ·split<;>split<;>(try rw[wV,if_neg e])<;>(try rw[wV,if_neg e])<;>exact ih
theorem ub {ops:List Oper} {δ:Nat->Dl} {f:Nat->Bool} {t:Nat}:∀{m:Nat},(∀ j,j<m->f j=true->bO ops j≠some t\/(δ j).nb=none)->(bK ops st δ f m).b t=st.b t
 | 0,_=>rfl
 | m+1,h=>by
  have ih:=ub (δ:=δ) (f:=f) (m:=m) fun j hj=>h j aw;simp only[bK];split
  ·rename_i hf;rw[NW _ _ _ _ (h m aw hf)];exact ih
  ·exact ih
theorem ua {ops:List Oper} {δ:Nat->Dl} {f:Nat->Bool}:∀{m:Nat},(∀ j,j<m->f j=true->(δ j).ne=none)->(bK ops st δ f m).e=st.e
 | 0,_=>rfl
 | m+1,h=>by
  have ih:(bK ops st δ f m).e=st.e:=ua fun j hj=>h j aw;simp only[bK];split
  ·rename_i hf;rw[NV _ _ _ (h m aw hf)];exact ih
  ·exact ih
theorem Da (st:St) (dst:Option Tmp) (δ:Dl) (t:Nat) (h:δ.ne=none\/(dst≠some t/\δ.kill=none)):(st.app dst δ).e t=st.e t:=by
 cases dst with
 | none=>rfl
 | some d =>
  rcases h with h|⟨h,h'⟩
  ·simp only[St.app,h]
  ·simp only[St.app,h'];cases δ.ne with
   | none=>rfl
   | some n=>exact aT _ _ (fun e=>h (by rw[e]))
theorem xB {ops:List Oper} {δ:Nat->Dl} {f:Nat->Bool} {t:Nat}:∀{m:Nat},(∀ j,j<m->f j=true->(δ j).ne=none\/(bO ops j≠some t/\(δ j).kill=none))->(bK ops st δ f m).e t=st.e t
 | 0,_=>rfl
 | m+1,h=>by
  have ih:(bK ops st δ f m).e t=st.e t:=xB fun j hj=>h j aw;simp only[bK];split
  ·rename_i hf;rw[Da _ _ _ _ (h m aw hf)];exact ih
  ·exact ih
theorem DH {ops:List Oper} {δ:Nat->Dl} {f g:Nat->Bool} {t:Nat}:∀{m:Nat},(∀ j,j<m->(δ j).ne≠none->(δ j).kill=none/\(bO ops j=some t->f j=g j))->(bK ops st δ f m).e t=(bK ops st δ g m).e t
 | 0,_=>rfl
 | m+1,h=>by
  have ih:=DH (δ:=δ) (f:=f) (g:=g) (m:=m) fun j hj=>h j aw;simp only[bK];cases hn:(δ m).ne with
  | none =>
   have e1:∀ s:St,(s.app (bO ops m) (δ m)).e t=s.e t:=fun s=>Da _ _ _ _ (.inl hn);split<;>split<;>(try simp only[e1])<;>exact ih
  | some n =>
   obtain⟨hk,hd⟩:=h m aw (by rw[hn];simp);by_cases e:bO ops m=some t
   ·rw[hd e];split
    ·rw[e];simp only[St.app,hn,hk,aN]
    ·exact ih
   ·have e1:∀ s:St,(s.app (bO ops m) (δ m)).e t=s.e t:=fun s=>Da _ _ _ _ (.inr ⟨e,hk⟩);split<;>split<;>(try simp only[e1])<;>exact ih
theorem Mg (h:bu P kind D o st δ) (hf:j8 kind o=true):δ.kill=none:=by
 obtain⟨dst,op,ty,pos,aft,gd⟩:=o;cases op with
 | call c =>
  obtain⟨callee,ca,cb⟩:=c;cases callee with
  | value x =>
   cases x with
   | func f =>
    simp only[j8,decide_eq_true_eq]at hf;simp only[bu]at h;obtain⟨f',_,h1,_,_,h⟩:=h;have:f'=f:=by
     simp only[c8,St.ev]at h1;simpa using h1.symm
    subst this;simp only[hf]at h;obtain⟨_,_,_,_,_,_,rfl⟩:=h;rfl
   | _=>simp[j8]at hf
  | _=>simp[j8]at hf
 | _=>simp[j8]at hf
theorem rh (h:bu P kind D o st δ):(δ.nb≠none->su o=true)/\(δ.ne≠none->ef kind o=true):=by
 unfold bu at h;cases ho:o.op with
 | move x=>rw[ho]at h;subst h;simp
 | assign x=>rw[ho]at h;subst h;simp
 | pick c x y=>rw[ho]at h;obtain⟨_,_,rfl⟩:=h;simp
 | alloc T=>rw[ho]at h;obtain⟨_,_,_,_,_,_,rfl⟩:=h;simp[su,ho]
 | box T x=>rw[ho]at h;obtain⟨_,_,_,_,_,rfl⟩:=h;simp[su,ho]
 | build T ps=>rw[ho]at h;obtain⟨_,_,_,_,_,_,_,_,_,_,_,_,_,rfl⟩:=h;simp
 | buildSlice T n ps=>rw[ho]at h;obtain⟨_,_,_,_,_,_,_,_,_,_,_,rfl⟩:=h;simp
 | load T x=>rw[ho]at h;obtain⟨_,_,_,_,_,_,rfl⟩:=h;simp
 | nilCheck x=>rw[ho]at h;obtain⟨_,rfl⟩:=h;simp
 | binOp op T x y U=>rw[ho]at h;obtain⟨_,_,_,_,_,_,_,rfl⟩:=h;simp
 | unOp op T x=>rw[ho]at h;obtain⟨_,_,_,_,_,rfl⟩:=h;simp
 | convert T U x=>rw[ho]at h;obtain⟨_,_,_,_,_,rfl⟩:=h;simp
 | index T x y=>rw[ho]at h;obtain⟨_,_,_,_,_,_,_,rfl⟩:=h;simp
 | extract x n=>rw[ho]at h;obtain⟨_,_,_,_,rfl⟩:=h;simp
 | field T x f=>rw[ho]at h;obtain⟨_,_,_,_,_,_,_,_,_,_,rfl⟩:=h;simp
 | fieldAddr T x f =>
  rw[ho]at h;obtain⟨_,_,_,_,_,_,_,h⟩:=h;split at h
  ·obtain⟨_,rfl⟩:=h;simp
  ·obtain⟨_,_,_,rfl⟩:=h;simp
  ·obtain⟨_,_,_,rfl⟩:=h;simp
  ·exact h.elim
 | indexAddr T x y =>
  rw[ho]at h;obtain⟨_,_,_,_,_,h⟩:=h;split at h
  ·obtain⟨_,_,_,_,_,rfl⟩:=h;simp
  ·obtain⟨_,_,_,_,_,rfl⟩:=h;simp
  ·obtain⟨_,_,_,_,_,_,_,rfl⟩:=h;simp
  ·obtain⟨_,_,_,_,_,_,_,_,_,rfl⟩:=h;simp
  ·obtain⟨_,_,_,_,_,_,_,rfl⟩:=h;simp
  ·exact h.elim
 | slice T x lo hi mx =>
  rw[ho]at h;obtain⟨_,_,_,_,_,_,_,_,_,_,_,_,_,h⟩:=h;cases mx with
  | some y=>obtain⟨_,_,_,_,_,_,_,rfl⟩:=h;simp
  | none =>
   dsimp only at h;split at h
   ·obtain⟨_,rfl⟩:=h;simp
   ·obtain⟨_,rfl⟩:=h;simp
   ·obtain⟨_,_,⟨_,rfl⟩|⟨_,_,rfl⟩⟩:=h<;>simp
   ·exact h.elim
 | makeSlice T x y=>rw[ho]at h;obtain⟨_,_,_,_,_,_,_,_,_,_,_,_,_,_,rfl⟩:=h;simp[ef,ho]
 | call c =>
  rw[ho]at h;dsimp only at h;cases hc:c.callee with
  | value x =>
   rw[hc]at h;obtain⟨f,_,h1,_,_,h⟩:=h;cases hk:kind f with
   | fn=>simp only[hk]at h;obtain⟨_,_,rfl⟩:=h;simp
   | fresh =>
    simp only[hk]at h;obtain⟨_,_,_,_,h2,_,rfl⟩:=h;refine⟨au,fun _=>?_⟩;have h2:c.callee = .value (.func f):=hc ▸ h2;obtain⟨ca,cb,cc⟩:=c;simp only at h2;subst h2;simp[ef,ho,hk]
   | sem=>simp[hk]at h
  | invoke r m=>simp[hc]at h
  | builtin b =>
   rw[hc]at h;cases b with
   | len=>obtain⟨_,_,_,_,_,_,rfl⟩:=h;simp
   | max=>obtain⟨_,_,_,_,_,_,_,_,rfl⟩:=h;simp
   | min=>obtain⟨_,_,_,_,_,_,_,_,rfl⟩:=h;simp
   | append =>
    obtain⟨ca,cb,cc⟩:=c;simp only at hc;subst hc;refine⟨?_,fun _=>by simp[ef,ho]⟩;obtain⟨_,_,_,_,_,_,_,_,_,_,_,_,_,_,_,_,_,_,h⟩:=h;split at h
    ·obtain⟨_,_,rfl⟩:=h;simp
    ·obtain⟨_,_,_,_,_,_,_,_,rfl⟩:=h;simp
    ·exact h.elim
   | _=>simp at h
 | _=>simp[ho]at h
theorem Lz {d:DI} (h:bu P kind (some d) o st δ) (hn:d.nk≠none):δ.kill=none:=by
 unfold bu at h;cases ho:o.op with
 | move x=>rw[ho]at h;subst h;rfl
 | assign x=>rw[ho]at h;subst h;rfl
 | pick c x y=>rw[ho]at h;obtain⟨_,_,rfl⟩:=h;rfl
 | alloc T=>rw[ho]at h;obtain⟨_,_,_,_,_,_,rfl⟩:=h;rfl
 | box T x=>rw[ho]at h;obtain⟨_,_,_,_,_,rfl⟩:=h;rfl
 | build T ps=>rw[ho]at h;obtain⟨_,_,_,_,_,_,_,_,_,_,_,_,_,rfl⟩:=h;rfl
 | buildSlice T n ps=>rw[ho]at h;obtain⟨_,_,_,_,_,_,_,_,_,_,_,rfl⟩:=h;rfl
 | load T x=>rw[ho]at h;obtain⟨_,_,_,_,_,_,rfl⟩:=h;rfl
 | nilCheck x=>rw[ho]at h;obtain⟨_,rfl⟩:=h;rfl
 | binOp op T x y U=>rw[ho]at h;obtain⟨_,_,_,_,_,_,_,rfl⟩:=h;rfl
 | unOp op T x=>rw[ho]at h;obtain⟨_,_,_,_,_,rfl⟩:=h;rfl
 | convert T U x=>rw[ho]at h;obtain⟨_,_,_,_,_,rfl⟩:=h;rfl
 | index T x y=>rw[ho]at h;obtain⟨_,_,_,_,_,_,_,rfl⟩:=h;rfl
 | extract x n=>rw[ho]at h;obtain⟨_,_,_,_,rfl⟩:=h;rfl
 | field T x f=>rw[ho]at h;obtain⟨_,_,_,_,_,_,_,_,_,_,rfl⟩:=h;rfl
 | fieldAddr T x f =>
  rw[ho]at h;obtain⟨_,_,_,_,_,_,_,h⟩:=h;split at h
  ·obtain⟨_,rfl⟩:=h;rfl
  ·obtain⟨_,_,_,rfl⟩:=h;rfl
  ·obtain⟨_,_,_,rfl⟩:=h;rfl
  ·exact h.elim
 | indexAddr T x y =>
  rw[ho]at h;obtain⟨_,_,_,_,_,h⟩:=h;split at h
  ·obtain⟨_,_,_,_,_,rfl⟩:=h;rfl
  ·obtain⟨_,_,_,_,_,rfl⟩:=h;rfl
  ·obtain⟨_,_,_,_,_,_,_,rfl⟩:=h;rfl
  ·obtain⟨_,_,_,_,_,_,_,_,_,rfl⟩:=h;rfl
  ·obtain⟨_,_,_,_,_,_,_,rfl⟩:=h;rfl
  ·exact h.elim
 | slice T x lo hi mx =>
  rw[ho]at h;obtain⟨_,_,_,_,_,_,_,_,_,_,_,_,_,h⟩:=h;cases mx with
  | some y=>obtain⟨_,_,_,_,_,_,_,rfl⟩:=h;rfl
  | none =>
   dsimp only at h;split at h
   ·obtain⟨_,rfl⟩:=h;rfl
   ·obtain⟨_,rfl⟩:=h;rfl
   ·obtain⟨_,_,⟨_,rfl⟩|⟨_,_,rfl⟩⟩:=h<;>rfl
   ·exact h.elim
 | makeSlice T x y=>rw[ho]at h;obtain⟨_,_,_,_,_,_,_,_,_,_,_,_,_,_,rfl⟩:=h;rfl
 | call c =>
  rw[ho]at h;dsimp only at h;cases hc:c.callee with
  | value x =>
   rw[hc]at h;obtain⟨f,_,h1,_,_,h⟩:=h;cases hk:kind f with
   | fn=>simp only[hk]at h;obtain⟨_,_,rfl⟩:=h;rfl
   | fresh =>
    simp only[hk]at h;obtain⟨_,_,_,_,h2,_,rfl⟩:=h;rfl
   | sem=>simp[hk]at h
  | invoke r m=>simp[hc]at h
  | builtin b =>
   rw[hc]at h;cases b with
   | len=>obtain⟨_,_,_,_,_,_,rfl⟩:=h;rfl
   | max=>obtain⟨_,_,_,_,_,_,_,_,rfl⟩:=h;rfl
   | min=>obtain⟨_,_,_,_,_,_,_,_,rfl⟩:=h;rfl
   | append =>
    obtain⟨ca,cb,cc⟩:=c;simp only at hc;subst hc;obtain⟨_,_,_,_,_,_,_,_,_,_,_,_,_,_,_,_,_,hk,h⟩:=h;split at h
    ·obtain⟨_,_,rfl⟩:=h;rfl
    ·rename_i e;rw[e]at hk;exact absurd (hk d rfl) hn
    ·exact h.elim
   | _=>simp at h
 | _=>simp[ho]at h
end
section
variable {P:Program} {kind:FuncId->CK} {di:DI} {st st':St} {o:Oper} {δ:Dl}
theorem lZ (he:∀ t,okE (some di) t->st'.e t=st.e t) {v:AV} (hn:fW (some di) v):st'.toIV v=st.toIV v:=by
 cases v<;>simp only[St.toIV];rw[he _ hn]
theorem Gp (he:∀ t,okE (some di) t->st'.e t=st.e t) {v:AV} (hn:fW (some di) v):st'.len v=st.len v:=by
 cases v with
 | sl t g len=>simp only[St.len];rw[he _ hn]
 | i x=>cases x with
  | c c=>cases c<;>rfl
  | g cs=>rfl
 | _=>rfl
theorem Cq (he:∀ t,okE (some di) t->st'.e t=st.e t) {x:Operand} (hx:st'.ev x=st.ev x) (heo:di.fr=true->∀ t,x = .tmp t->st'.e t=st.e t) (hn:ro (some di) x (st.ev x)):st'.len (st'.ev x)=st.len (st.ev x):=by
 rw[hx];generalize st.ev x=v at *
 cases v with
 | sl t g len =>
  simp only[St.len];rcases hn with h|⟨h1,h2⟩
  ·rw[he _ h]
  ·rw[heo h1 t h2]
 | i x=>cases x with
  | c c=>cases c<;>rfl
  | g cs=>rfl
 | _=>rfl
theorem BT (he:st'.e=st.e) (v:AV):st'.rows v=st.rows v:=by
 cases v with
 | sl t g len=>simp only[St.rows];rw[he]
 | i x=>cases x with
  | c c=>cases c<;>rfl
  | g cs=>rfl
 | _=>rfl
theorem vO (he:∀ t,okE (some di) t->st'.e t=st.e t) (hb:∀ t,di.al.contains t=false->st'.b t=st.b t) {v:AV} {cs:List C} (h:st.cellsOf (some di) v cs):st'.cellsOf (some di) v cs:=by
 cases v with
 | bp t g off=>obtain⟨h1,h2,h3,h4⟩:=h;refine⟨?_,h2,h3,?_⟩<;>rw[hb t h3]<;>assumption
 | ep t g i off=>obtain⟨h1,h2,h3,h4⟩:=h;refine⟨?_,h2,h3,?_⟩<;>rw[he _ h3]<;>assumption
 | ip l=>exact h
 | _=>exact h.elim
theorem mr {α β:Type} {f g:α->Option β}:∀{l:List α},(∀ x∈l,f x=g x)->eF f l=eF g l
 | [],_=>rfl
 | x::l,h=>by simp only[eF];rw[h x au,mr fun y hy=>h y (List.mem_cons_of_mem _ hy)]
theorem FU (hx:∀ x∈o.op.operands,st'.ev x=st.ev x) (hb:∀ t,di.al.contains t=false->st'.b t=st.b t) (hbd:∀ t,o.dst=some t->st'.b t=st.b t)
  (heo:di.fr=true->∀ t,.tmp t∈o.op.operands->st'.e t=st.e t) (he:∀ t,okE (some di) t->st'.e t=st.e t) (hee:ef kind o=true->(j8 kind o=true/\∀ d,o.dst=some d->st'.e d=st.e d)\/st'.e=st.e) (h:bu P kind (some di) o st δ):bu P kind (some di) o st' δ:=by
 unfold bu at h ⊢;cases ho:o.op with
 | move x=>rw[ho]at h hx;dsimp only at h ⊢;rw[hx x (by simp[Op.operands])];exact h
 | assign x=>rw[ho]at h hx;dsimp only at h ⊢;rw[hx x (by simp[Op.operands])];exact h
 | pick c x y =>
  rw[ho]at h hx;dsimp only at h ⊢;rw[hx c (by simp[Op.operands]),hx x (by simp[Op.operands]),hx y (by simp[Op.operands])];exact h
 | alloc T =>
  rw[ho]at h;dsimp only at h ⊢;obtain⟨d,ti,cs,h1,h2,h3,h4⟩:=h;exact⟨d,ti,cs,h1,h2,h3,by rw[hbd d h1];exact h4⟩
 | box T x =>
  rw[ho]at h hx;dsimp only at h ⊢;obtain⟨d,y,h1,h2,h3,h4⟩:=h;rw[hx x (by simp[Op.operands])];exact⟨d,y,h1,by rw[lZ he h3];exact h2,h3,by rw[hbd d h1];exact h4⟩
 | build T ps =>
  rw[ho]at h hx;dsimp only at h ⊢;obtain⟨ti,z,pl,l,cs,h1,h2,h3,h4,h5,h6,h7,h8,h9⟩:=h;have hp:∀ p∈ps.toList,st'.ev p.2=st.ev p.2:=fun p hp=>hx _ (by simp[Op.operands];exact⟨p.1,by simpa using hp⟩);refine⟨ti,z,pl,l,cs,h1,h2,h3,h4,h5,?_,fun p hp'=>by rw[hp p hp'];exact h7 p hp',h8,h9⟩;rw[<-h6];exact mr fun p hp'=>by rw[hp p hp',lZ he (h7 p hp')]
 | buildSlice T n ps =>
  rw[ho]at h hx;dsimp only at h ⊢;obtain⟨ti,z,l,h1,h2,h3,h4,h5,h6,h7,h8⟩:=h;have hp:∀ p∈ps.toList,st'.ev p.2=st.ev p.2:=fun p hp=>hx _ (by simp[Op.operands];exact⟨p.1,by simpa using hp⟩);refine⟨ti,z,l,h1,h2,h3,h4,h5,?_,fun p hp'=>by rw[hp p hp'];exact h7 p hp',h8⟩;rw[<-h6];exact mr fun p hp'=>by rw[hp p hp',lZ he (h7 p hp')]
 | load T x =>
  rw[ho]at h hx;dsimp only at h ⊢;obtain⟨ti,cs,iv,h1,h2,h3⟩:=h;rw[hx x (by simp[Op.operands])];exact⟨ti,cs,iv,h1,vO he hb h2,h3⟩
 | nilCheck x =>
  rw[ho]at h hx;dsimp only at h ⊢;rw[hx x (by simp[Op.operands])];refine⟨?_,h.2⟩;have h1:=h.1;split at h1
  ·obtain⟨k1,k2,k3⟩:=h1;exact⟨by rw[hb _ k3];exact k1,k2,k3⟩
  ·trivial
  ·exact h1.elim
 | binOp op T x y U =>
  rw[ho]at h hx;dsimp only at h ⊢;rw[hx x (by simp[Op.operands]),hx y (by simp[Op.operands])];exact h
 | unOp op T x=>rw[ho]at h hx;dsimp only at h ⊢;rw[hx x (by simp[Op.operands])];exact h
 | convert T U x=>rw[ho]at h hx;dsimp only at h ⊢;rw[hx x (by simp[Op.operands])];exact h
 | index T x y =>
  rw[ho]at h hx;dsimp only at h ⊢;rw[hx x (by simp[Op.operands]),hx y (by simp[Op.operands])];exact h
 | extract x n=>rw[ho]at h hx;dsimp only at h ⊢;rw[hx x (by simp[Op.operands])];exact h
 | field T x f=>rw[ho]at h hx;dsimp only at h ⊢;rw[hx x (by simp[Op.operands])];exact h
 | fieldAddr T x f =>
  rw[ho]at h hx;dsimp only at h ⊢;rw[hx x (by simp[Op.operands])];obtain⟨ti,tf,fd,h1,h2,h3,h4,h5⟩:=h;refine⟨ti,tf,fd,h1,h2,h3,h4,?_⟩;split at h5
  ·exact h5
  ·obtain⟨k1,k2,k3,k4⟩:=h5;exact⟨by rw[hb _ k3];exact k1,k2,k3,k4⟩
  ·obtain⟨k1,k2,k3,k4⟩:=h5;exact⟨by rw[he _ k3];exact k1,k2,k3,k4⟩
  ·exact h5.elim
 | indexAddr T x y =>
  rw[ho]at h hx;dsimp only at h ⊢;rw[hx x (by simp[Op.operands]),hx y (by simp[Op.operands])];obtain⟨ti,i,h1,h2,h3,h5⟩:=h;refine⟨ti,i,h1,h2,h3,?_⟩;split at h5
  ·exact h5
  ·exact h5
  ·obtain⟨te,k1,k2,k3,k4,k5,k6,k7⟩:=h5;exact⟨te,k1,by rw[he _ k4];exact k2,k3,k4,k5,by rw[he _ k4];exact k6,k7⟩
  ·obtain⟨n,e,te,k1,k2,k3,k4,k5,k6,k7⟩:=h5;exact⟨n,e,te,k1,k2,k3,by rw[hb _ k6];exact k4,k5,k6,k7⟩
  ·exact h5
  ·exact h5.elim
 | slice T x lo hi mx =>
  rw[ho]at h hx;dsimp only at h ⊢;obtain⟨ti,e,n,l,hh,h1,h2,h3,h3',h4,h5,h6,h7,h8⟩:=h;have e1:st'.ev x=st.ev x:=hx x (by simp[Op.operands]);refine⟨ti,e,n,l,hh,h1,h2,by rw[Cq he e1 (fun hf t ht=>heo hf t (by rw[<-ht];simp[ho,Op.operands])) h3'];exact h3,by rw[e1];exact h3',?_,?_,h6,h7,?_⟩
  ·cases lo with
   | none=>exact h4
   | some y=>dsimp only at h4 ⊢;rw[hx y (by simp[Op.operands])];exact h4
  ·cases hi with
   | none=>exact h5
   | some y=>dsimp only at h5 ⊢;rw[hx y (by simp[Op.operands])];exact h5
  ·cases mx with
   | none=>dsimp only at h8 ⊢;rw[e1];exact h8
   | some y=>dsimp only at h8 ⊢;rw[e1,hx y (by simp[Op.operands])];exact h8
 | makeSlice T x y =>
  have e0:st'.e=st.e:=(hee (by simp[ef,ho])).resolve_left (fun h=>by simp[j8,ho]at h);rw[ho]at h hx;dsimp only at h ⊢;rw[hx x (by simp[Op.operands]),hx y (by simp[Op.operands]),e0];exact h
 | call c =>
  rw[ho]at hx h;dsimp only at h ⊢;have ha:∀ x∈c.args.toList,st'.ev x=st.ev x:=fun x hx'=>hx x (by simp[Op.operands,Call.operands];right;simpa using hx');cases hc:c.callee with
  | value f =>
   rw[hc]at h;dsimp only at h ⊢;obtain⟨fn,args,h1,h2,h3,h4⟩:=h;have hf:st'.ev f=st.ev f:=hx f (by simp[Op.operands,Call.operands,hc]);refine⟨fn,args,?_,?_,fun x hx'=>by rw[ha x hx'];exact h3 x hx',?_⟩
   ·unfold c8 at h1 ⊢;rw[hc]at h1 ⊢;dsimp only at h1 ⊢;rw[hf];exact h1
   ·rw[<-h2];exact mr fun x hx'=>by rw[ha x hx',lZ he (h3 x hx')]
   ·cases hk:kind fn with
    | fn=>simp only[hk]at h4 ⊢;exact h4
    | sem=>simp[hk]at h4
    | fresh =>
     simp only[hk]at h4 ⊢;obtain⟨d,sz,rs,k1,k2,k3,k4⟩:=h4;have e0:st'.e d=st.e d:=(fun(h:(j8 kind o=true/\∀ d,o.dst=some d->st'.e d=st.e d)\/st'.e=st.e)=>h.elim (fun h=>h.2 d k1) (fun h=>by rw[h])) <| hee (by
      have h2:c.callee = .value (.func fn):=hc ▸ k2;obtain⟨ca,cb,cc⟩:=c;simp only at h2;subst h2;simp[ef,ho,hk])
     exact⟨d,sz,rs,k1,k2,k3,by rw[e0];exact k4⟩
  | invoke r m=>rw[hc]at h;exact h.elim
  | builtin b =>
   rw[hc]at h;cases b with
   | len =>
    dsimp only at h ⊢;obtain⟨x,n,h1,h2,h3,h4⟩:=h;have e1:=ha x (by rw[h1];simp);exact⟨x,n,h1,by rw[e1,Gp he h3];exact h2,by rw[e1];exact h3,h4⟩
   | max =>
    dsimp only at h ⊢;obtain⟨x,y,k,p,q,h1,h2,h3,h4⟩:=h;exact⟨x,y,k,p,q,h1,by rw[ha x (by rw[h1];simp)];exact h2,by rw[ha y (by rw[h1];simp)];exact h3,h4⟩
   | min =>
    dsimp only at h ⊢;obtain⟨x,y,k,p,q,h1,h2,h3,h4⟩:=h;exact⟨x,y,k,p,q,h1,by rw[ha x (by rw[h1];simp)];exact h2,by rw[ha y (by rw[h1];simp)];exact h3,h4⟩
   | append =>
    have e0:st'.e=st.e:=(hee (by
     obtain⟨ca,cb,cc⟩:=c;simp only at hc;subst hc;simp[ef,ho])).resolve_left (fun hfr=>by
      have hfr:=hfr.1;obtain⟨ca,cb,cc⟩:=c;simp only at hc;subst hc;simp[j8,ho]at hfr)
    dsimp only at h ⊢;obtain⟨d,x,y,t,u,te,xs,h1,h2,h3,h4,h5,h6,h7⟩:=h;refine⟨d,x,y,t,u,te,xs,h1,h2,h3,h4,h5,?_,?_⟩
    ·rw[ha y (by rw[h2];simp),BT e0];exact h6
    ·rw[ha x (by rw[h2];simp),ha y (by rw[h2];simp),e0];exact h7
   | _=>exact h.elim
 | _=>simp[ho]at h
end
def dX (ops:List Oper) (F:Nat->Bool) (j:Nat):Prop:=∀ o,ops[j]?=some o->∀ e∈o.after,Region.binds .any e=true->F e.on=true
theorem uQ (acc:List Nat):∀(l:List Edge) (s0 i:Nat),(l.foldl (fun s e=>if Region.binds .any e then s ||| 2 ^ e.on ||| acc.getD e.on 0 else s) s0).testBit i=true ->
  s0.testBit i=true\/∃ e∈l,Region.binds .any e=true/\(i=e.on\/(acc.getD e.on 0).testBit i=true)
 | [],s0,i,h => .inl h
 | e::l,s0,i,h=>by
  simp only[List.foldl_cons]at h;rcases uQ acc l _ i h with h1|⟨e',he',hb,h2⟩
  ·split at h1
   ·rename_i hb;simp only[Nat.testBit_or,Bool.or_eq_true,Nat.testBit_two_pow,decide_eq_true_eq]at h1;rcases h1 with(h1|h1)|h1
    ·exact .inl h1
    ·exact .inr ⟨e,au,hb,.inl h1.symm⟩
    ·exact .inr ⟨e,au,hb,.inr h1⟩
   ·exact .inl h1
  ·exact .inr ⟨e',List.mem_cons_of_mem _ he',hb,h2⟩
theorem EB {F:Nat->Bool} {ops:List Oper} (hF:∀ j,F j=true->dX ops F j):∀(l:List Oper) (acc:List Nat),(∀ i,l[i]?=ops[acc.length+i]?) ->
  (∀ j i,dX ops F j->(acc.getD j 0).testBit i=true->F i=true)->∀ j i,dX ops F j->((befs l acc).getD j 0).testBit i=true->F i=true
 | [],acc,_,h=>h
 | o::l,acc,hl,h=>by
  unfold befs;refine EB hF l _ (fun i=>by have:=hl (i+1);simpa [Nat.add_assoc,Nat.add_comm 1]using this) ?_;intro j i hj hb;rcases Nat.lt_trichotomy j acc.length with h1|h1|h1
  ·rw[List.getD_eq_getElem?_getD,List.getElem?_append_left h1,<-List.getD_eq_getElem?_getD]at hb;exact h j i hj hb
  ·subst h1;rw[List.getD_eq_getElem?_getD,List.getElem?_append_right (ay _)]at hb;simp only[Nat.sub_self,List.getElem?_cons_zero,Option.getD_some]at hb;have h0:ops[acc.length]?=some o:=by have:=hl 0;simpa using this.symm
   rcases uQ acc _ _ _ hb with h2|⟨e,he,hbi,h2⟩
   ·simp at h2
   ·have hFe:=hj o h0 e (by simpa using he) hbi;rcases h2 with rfl|h2
    ·exact hFe
    ·exact h e.on i (hF _ hFe) h2
  ·rw[List.getD_eq_getElem?_getD,List.getElem?_eq_none ar]at hb;simp at hb
theorem kh {F:Nat->Bool} {ops:List Oper} (hF:∀ j,F j=true->dX ops F j) {i j:Nat} (hj:dX ops F j) (hb:(gg ops j).testBit i=true):F i=true :=
 EB hF ops [] (fun i=>by simp) (fun j i _ h=>by simp at h) j i hj hb
section
variable {ρ:Option Nat} {P:Program} {kind:FuncId->CK} {D:Option DI} {W0:cW} {M0:Nat->Prop} {N:Nat} {st:St} {G:Gh} {w:World} {a:Act} {o:Oper} {Q:Exit->Act->World->Prop} {δ:Dl} {K:St->Prop}
theorem bJ (st:St) (dst:Option Tmp) (v:AV):st.put dst v=st.app dst { v:=v }:=by cases dst<;>rfl
def rK (P:Program) (kind:FuncId->CK) (D:Option DI) (ops:Array Oper) (st:St) (o:Oper) (δ:Dl):Prop :=
 (gd ops st o=some true/\bu P kind D o st δ)\/(gd ops st o=some false/\δ={ v := .tup [] })
theorem kP {α:Type} {p:α->Bool}:∀{l:List α} {i:Nat} {x:α},i<(l.takeWhile p).length->l[i]?=some x->p x=true
 | [],_,_,h,_=>by simp at h
 | y::l,i,x,h,hx=>by
  by_cases hy:p y=true
  ·rw[List.takeWhile_cons_of_pos hy]at h;cases i with
   | zero=>simp at hx;subst hx;exact hy
   | succ i=>exact kP (l:=l) (i:=i) (by simpa using h) (by simpa using hx)
  ·rw[List.takeWhile_cons_of_neg hy]at h;simp at h
theorem Db {K:St->Prop} (hs:stable kind o=true) (h:AOp P kind D o K st):∃ δ,bu P kind D o st δ/\K (st.app o.dst δ):=by
 unfold AOp at h;split at h
 ·rename_i e;simp[stable,e]at hs
 ·rename_i e;split at h
  ·rename_i hsem;have:stable kind o = !eO kind o:=by
    unfold stable;split
    ·rename_i e2;exact absurd e2 (e _ _ _)
    ·rfl
   rw[this,hsem]at hs;simp at hs
  ·exact h
theorem pq {ops:Array Oper} {L:List Oper}:∀(l:List Oper) (k:Nat) (st st0:St) (δ0:Nat->Dl),(∀ i,i<l.length->l[i]?=L[k+i]?)->(∀ o∈l,stable kind o=true) ->
  bK L st0 δ0 (fun _=>true) k=st->jD P kind D ops l K st ->
  ∃ δ:Nat->Dl,(∀ i,i<k->δ i=δ0 i)/\K (bK L st0 δ (fun _=>true) (k+l.length)) /\
   ∀ i o,k<=i->i<k+l.length->L[i]?=some o->rK P kind D ops (bK L st0 δ (fun _=>true) i) o (δ i)
 | [],k,st,st0,δ0,_,_,hst,h=>⟨δ0,fun _ _=>rfl,by simp only[List.length_nil,Nat.add_zero,hst];exact h,fun i o h1 h2=>by simp at h2;omega⟩
 | o::l,k,st,st0,δ0,hl,hs,hst,h=>by
  have h0:L[k]?=some o:=by have:=hl 0 au;simpa using this.symm
  have congr:∀{δ δ':Nat->Dl} {m:Nat},(∀ j,j<m->δ j=δ' j)->bK L st0 δ (fun _=>true) m=bK L st0 δ' (fun _=>true) m:=by
   intro δ δ' m
   induction m with
   | zero=>intro _;rfl
   | succ m ih=>intro h;simp only[bK,if_true];rw[ih fun j hj=>h j aw,h m aw]
  have go:∀(d:Dl),rK P kind D ops st o d->jD P kind D ops l K (st.app o.dst d)->∃ δ:Nat->Dl,(∀ i,i<k->δ i=δ0 i)/\K (bK L st0 δ (fun _=>true) (k+(l.length+1))) /\
    ∀ i o,k<=i->i<k+(l.length+1)->L[i]?=some o->rK P kind D ops (bK L st0 δ (fun _=>true) i) o (δ i):=by
   intro d hd hK
   let δ1:Nat->Dl:=fun j=>if j=k then d else δ0 j
   have e1:bK L st0 δ1 (fun _=>true) k=st:=by
    rw[<-hst];exact congr fun j hj=>by simp[δ1];intro e;omega
   have e2:bK L st0 δ1 (fun _=>true) (k+1)=st.app o.dst d:=by
    simp only[bK,if_true,e1];simp[bO,h0,δ1]
   obtain⟨δ,g1,g2,g3⟩:=pq l (k+1) _ st0 δ1 (fun i hi=>by have:=hl (i+1) (by simpa using hi);simpa [Nat.add_assoc,Nat.add_comm 1]using this) (fun x hx=>hs x (List.mem_cons_of_mem _ hx)) e2 hK;refine⟨δ,fun i hi=>by rw[g1 i aw];simp[δ1];intro e;omega,by rw[<-Nat.add_assoc,Nat.add_right_comm];exact g2,?_⟩;intro i x hi1 hi2 hx;by_cases e:i=k
   ·subst e;rw[h0]at hx;cases hx;have:bK L st0 δ (fun _=>true) i=st:=by rw[<-e1];exact congr fun j hj=>g1 j aw
    rw[this,g1 i aw];simpa [δ1]using hd
   ·exact g3 i x aw aw hx
  obtain⟨t,hg,ht,hf⟩:=h;simp only[List.length_cons];cases t with
  | true =>
   obtain⟨d,h1,h2⟩:=Db (hs o au) (ht rfl);exact go d (.inl ⟨hg,h1⟩) h2
  | false=>exact go _ (.inr ⟨hg,rfl⟩) (by rw[<-bJ];exact hf rfl)
theorem Sim.drew (S:Sim W0 M0 N st G w a):Sim W0 M0 N st G { w with drawn:=w.drawn+1 } a:=by
 have hk:bE w (G.M M0) { w with drawn:=w.drawn+1 } (G.M M0):=⟨ay _,fun _ _ h=>⟨h,rfl⟩⟩
 have hE:Evo st G st G:=Evo.refl st G;exact{
     m0:=S.m0,lkb:=S.lkb,lkp:=S.lkp,defers:=S.defers,size:=S.size,below:=S.below.trans ⟨rfl,rfl,rfl,ay _,Nat.le_succ _,fun _ _ _=>rfl⟩,
     fr:=fun n=>(S.fr n).mono hk hE,
     bx:=fun t ht=>by
      obtain⟨h1,ys,T,h2,h3⟩:=S.bx t ht;exact⟨h1,ys,T,h2,h3.mono hk⟩
     en:=fun t ht=>(S.en t ht).mono hk rfl rfl fun _ h=>⟨h,rfl⟩
     mp:=fun t ht=>by
      exact(S.mp t ht).mono hk (fun _ _=>rfl) (fun _ _ _ h=>⟨h,rfl⟩)
     own:=S.own }
theorem Au {ops:List Oper} (h:kW kind ops=true) :
  (∀ i o,ops[i]?=some o->∀ e∈o.after,Region.binds .any e=true->e.on<i) /\
  (∀ i j,i<a7 kind ops->j<a7 kind ops->i≠j->∀ d,bO ops i=some d->bO ops j≠some d) /\
  (∀ i j,i<a7 kind ops->j<a7 kind ops->i≠j->∀ o d,ops[i]?=some o->bO ops j=some d->d∈dM ops o->(j<i/\(gg ops i).testBit j=true)\/(i<j/\(gg ops j).testBit i=true)) /\
  (∀ i j,a7 kind ops<=j->j<ops.length->i<j->(gg ops j).testBit i=true) /\
  (∀ i j,i<a7 kind ops->j<a7 kind ops->i≠j->∀ o o',ops[i]?=some o->ops[j]?=some o'->ef kind o=true->ef kind o'=false\/(j8 kind o=true/\j8 kind o'=true)):=by
 unfold kW at h;simp only[Bool.and_eq_true,List.all_eq_true,List.mem_range]at h;obtain⟨⟨⟨⟨h1,h2⟩,h3⟩,h4⟩,h5⟩:=h;refine⟨?_,?_,?_,?_,?_⟩
 ·intro i o ho e he hb;have hi:i<ops.length:=(List.getElem?_eq_some_iff.1 ho).1;have:=h1 i hi;simp only[ho,Option.map_some,Option.getD_some,Array.all_eq_true_iff_forall_mem]at this;have:=this e he;simp[hb]at this;exact this
 ·intro i j hi hj hij d hd hd';have:=h2 i hi j hj;simp only[bO]at hd hd';simp[hij,hd,hd']at this
 ·intro i j hi hj hij o d ho hd hr;have:=h3 i hi j hj;simp only[bO]at hd;simp[hij,ho,hd]at this;rcases this with(this|this)|this
  ·exact absurd hr this
  ·exact .inl this
  ·exact .inr this
 ·intro i j h1 h2 hij;have:=h4 j h2;simp only[Bool.or_eq_true,decide_eq_true_eq,List.all_eq_true,List.mem_range]at this;rcases this with this|this
  ·omega
  ·exact this i hij
 ·intro i j hi hj hij o o' ho ho' he;have:=h5 i hi j hj;simp[hij,ho,ho',he]at this;exact this
inductive Inv (P:Program) (kind:FuncId->CK) (W0:cW) (M0:Nat->Prop) (N:Nat) (ops:Array Oper) (st:St) (δ:Nat->Dl) (K:St->Prop) (F:Nat->Bool) (a:Act) (w:World):Prop
 | head (h:∀ j,a7 kind ops.toList<=j->F j=false) (G:Gh) (S:Sim W0 M0 N (bK ops.toList st δ F (a7 kind ops.toList)) G w a)
 | tail (m:Nat) (hm:a7 kind ops.toList<=m) (h1:∀ j,j<m->F j=true) (h2:∀ j,m<=j->F j=false) (st':St) (G:Gh) (S:Sim W0 M0 N st' G w a) (hK:jD P kind none ops (ops.toList.drop m) K st')
variable {ops:Array Oper} {δs:Nat->Dl}
theorem oi {m:Nat} {F:Nat->Bool} {st':St} {i:Nat} (hN:∀(i:Nat) o,ops[i]?=some o->∀ d,o.dst=some d->d<N) (hm:a7 kind ops.toList<=m) (h1:∀ j,j<m->F j=true)
  (h2:∀ j,m<=j->F j=false) (S:Sim W0 M0 N st' G w a) (hK:jD P kind none ops (ops.toList.drop m) K st') (hi:i=m) (hlt:i<ops.size) {K':Act->World->Prop}
  (hK':∀ a' w',Inv P kind W0 M0 N ops st δs K (fun j=>F j || j == i) a' w'->K' a' w'):wpOpIn (fen ρ) 0 P ops Q i K' a w:=by
 subst hi;have h0:ops[i]?=some ops[i]:=by simp[hlt]
 have hd:ops.toList.drop i=ops[i]::ops.toList.drop (i+1):=by
  rw[List.drop_eq_getElem_cons (by simpa using hlt)];simp
 rw[hd]at hK;simp only[wpOpIn,h0];have next:∀(st1:St) G1 a1 w1,jD P kind none ops (ops.toList.drop (i+1)) K st1->Sim W0 M0 N st1 G1 w1 a1->K' a1 w1:=fun st1 G1 a1 w1 k1 S1 =>
  hK' _ _ (.tail (i+1) aw (fun j hj=>by
   by_cases e:j=i
   ·simp[e]
   ·simp[h1 j aw]) (fun j hj=>by
   have:(j == i)=false:=by simp;omega
   simp[h2 j aw,this]) st1 G1 S1 k1)
 obtain⟨t,hg,ht,hf⟩:=hK;rw[gX S hg];cases t with
 | true =>
  simp only[if_true];refine cn (pG (ht rfl)) (Oper.wp_mono ?_ (iG (Q:=Q) S (hN i _ h0) (ht rfl)));rintro a' w' ⟨st1,G1,k1,S1⟩;exact next st1 G1 a' w' k1 S1
 | false =>
  simp only[Bool.false_eq_true,if_false];exact⟨fun _ _=>trivial,next _ _ _ _ (hf rfl) (jV S (hN i _ h0))⟩
theorem Jk {S:St} {o:Oper} (h:∀ j want d,o.guard=some (j,want)->bO ops.toList j=some d->S.t d=st.t d):gd ops S o=gd ops st o:=by
 unfold gd;cases hg:o.guard with
 | none=>rfl
 | some p =>
  obtain⟨j,want⟩:=p;dsimp only;have e:(ops[j]?).bind (·.dst)=bO ops.toList j:=by simp[bO]
  rw[e];cases hd:bO ops.toList j with
  | none=>rfl
  | some d=>simp only;rw[h j want d hg hd]
theorem wB {bk:Bool} {F:Nat->Bool} {i:Nat} (hN:∀(i:Nat) o,ops[i]?=some o->∀ d,o.dst=some d->d<N) (d2:∀ i j,i<a7 kind ops.toList->j<a7 kind ops.toList->i≠j->∀ d,bO ops.toList i=some d->bO ops.toList j≠some d)
  (d3:∀ i j,i<a7 kind ops.toList->j<a7 kind ops.toList->i≠j->∀ o d,ops.toList[i]?=some o->bO ops.toList j=some d->d∈dM ops.toList o->(j<i/\(gg ops.toList i).testBit j=true)\/(i<j/\(gg ops.toList j).testBit i=true))
  (d5:∀ i j,i<a7 kind ops.toList->j<a7 kind ops.toList->i≠j->∀ o o',ops.toList[i]?=some o->ops.toList[j]?=some o'->ef kind o=true->ef kind o'=false\/(j8 kind o=true/\j8 kind o'=true))
  (hstep:∀ i o,i<a7 kind ops.toList->ops.toList[i]?=some o->rK P kind (some (diN kind ops.toList bk)) ops (bK ops.toList st δs (fun _=>true) i) o (δs i))
  (hcl:∀ j,F j=true->dX ops.toList F j) (hi:i<a7 kind ops.toList) (hlt:i<ops.size) (hFi:F i=false) (hei:dX ops.toList F i)
  (S:Sim W0 M0 N (bK ops.toList st δs F (a7 kind ops.toList)) G w a) {K':Act->World->Prop}
  (hK':∀ G1 a1 w1,Sim W0 M0 N (bK ops.toList st δs (fun j=>F j || j == i) (a7 kind ops.toList)) G1 w1 a1->K' a1 w1):wpOpIn (fen ρ) 0 P ops Q i K' a w:=by
 have h0:ops[i]?=some ops[i]:=by simp[hlt]
 have h0':ops.toList[i]?=some ops[i]:=by simp[hlt]
 have hlen:a7 kind ops.toList<=ops.toList.length:=(List.takeWhile_sublist _).length_le;have hpart:∀ j o,j<a7 kind ops.toList->ops.toList[j]?=some o->((δs j).nb≠none->su o=true)/\((δs j).ne≠none->ef kind o=true):=by
  intro j o hj ho;rcases hstep j o hj ho with⟨_,hr⟩|⟨_,hr⟩
  ·exact rh hr
  ·rw[hr];simp
 have hkill:∀ j o,j<a7 kind ops.toList->ops.toList[j]?=some o->j8 kind o=true->(δs j).kill=none:=by
  intro j o hj ho hf;rcases hstep j o hj ho with⟨_,hr⟩|⟨_,hr⟩
  ·exact Mg hr hf
  ·rw[hr]
 have hget:∀ j,j<a7 kind ops.toList->∃ o,ops.toList[j]?=some o:=fun j hj=>⟨_,aD aw⟩;have H:Kl kind ops.toList (a7 kind ops.toList) δs:={
  dst:=d2
  eff:=fun p q hp hq hpq=>by
   obtain⟨o,ho⟩:=hget p hp;obtain⟨o',ho'⟩:=hget q hq;cases h1:(δs p).ne with
   | none=>exact .inl rfl
   | some x =>
    have e1:=(hpart p o hp ho).2 (by rw[h1];simp);rcases d5 p q hp hq hpq o o' ho ho' e1 with e2|⟨f1,f2⟩
    case inr=>exact .inr (.inr ⟨hkill p o hp ho f1,hkill q o' hq ho' f2⟩)
    refine .inr (.inl ?_);cases h2:(δs q).ne with
    | none=>rfl
    | some y =>
     have:=(hpart q o' hq ho').2 (by rw[h2];simp);rw[e2]at this;simp at this }
 generalize hk:a7 kind ops.toList=k at *
 have est:bK ops.toList st δs (fun _=>true) i=bK ops.toList st δs (fun j=>decide (j<i)) k:=by
  rw[rc (i:=i) (m:=k) aw (fun j h1 _=>by simp;omega)];exact eY fun j hj=>by simp[hj]
 have ht:∀ d,d∈dM ops.toList ops[i]->(bK ops.toList st δs F k).t d=(bK ops.toList st δs (fun _=>true) i).t d:=by
  intro d hd;rw[est];refine BS fun j hj hdj=>?_;by_cases e:i=j
  ·subst e;simp[hFi]
  ·rcases d3 i j hi hj e _ d h0' hdj hd with⟨h1,h2⟩|⟨h1,h2⟩
   ·rw[kh hcl hei h2];simp[h1]
   ·have:F j=false:=by
     cases hF:F j with
     | false=>rfl
     | true=>have:=kh hcl (hcl j hF) h2;rw[hFi]at this;simp at this
    rw[this];simp;omega
 have hev:∀ x∈ops[i].op.operands,(bK ops.toList st δs F k).ev x=(bK ops.toList st δs (fun _=>true) i).ev x:=by
  intro x hx;cases x with
  | tmp t =>
   simp only[St.ev];refine ht t ?_;unfold dM;rw[List.mem_append];refine .inl (List.mem_filterMap.2 ⟨.tmp t,by simpa using hx,rfl⟩)
  | _=>rfl
 have hgd:gd ops (bK ops.toList st δs F k) ops[i]=gd ops (bK ops.toList st δs (fun _=>true) i) ops[i]:=by
  refine Jk fun j want d hg hd=>ht d ?_;unfold dM;rw[List.mem_append];refine .inr ?_;rw[hg];simp only[bO,Array.getElem?_toList]at hd;simp[hd]
 have next:∀ G1 a1 w1,Sim W0 M0 N ((bK ops.toList st δs F k).app ops[i].dst (δs i)) G1 w1 a1->K' a1 w1:=by
  intro G1 a1 w1 S1;refine hK' G1 _ _ ?_;rw[np H hFi (ay k) hi];have:bO ops.toList i=ops[i].dst:=by simp[bO,hlt]
  rw[this];exact S1
 simp only[wpOpIn,h0];rcases hstep i _ hi h0' with⟨hg,hr⟩|⟨hg,hr⟩
 ·rw[gX S (hgd.trans hg)];simp only[if_true];refine cn (yT hr) ?_;have hbnone:∀ f:Nat->Bool,∀ t,(nQ kind ops.toList).al.contains t=false->(bK ops.toList st δs f k).b t=st.b t:=by
   intro f t hal;refine ub fun j hj _=>?_;obtain⟨o,ho⟩:=hget j hj;cases hn:(δs j).nb with
   | none=>exact .inr rfl
   | some cs =>
    refine .inl fun e=>?_;have hbx:=(hpart j o hj ho).1 (by rw[hn];simp);have hmem:t∈(nQ kind ops.toList).al:=by
     simp only[nQ,hk];refine List.mem_filterMap.2 ⟨o,?_,?_⟩
     ·exact List.mem_of_getElem? (i:=j) (by rw[List.getElem?_take,if_pos hj];exact ho)
     ·simp only[bO,ho,Option.bind_some]at e;simp[hbx,e]
    have hmem:=List.contains_iff_mem.2 hmem;rw[hal]at hmem;simp at hmem
  have hrel:=FU (kind:=kind) (st:=bK ops.toList st δs (fun _=>true) i) (st':=bK ops.toList st δs F k) hev ?_ ?_ ?_ ?_ ?_ hr
  ·refine Oper.wp_mono ?_ (rf (Q:=Q) S (hN i _ h0) hrel);rintro a' w' ⟨G1,S1⟩;exact next G1 a' w' S1
  ·intro t hal;rw[est,hbnone F t hal,hbnone _ t hal]
  ·intro t htd;have hdi:bO ops.toList i=some t:=by simp[bO,hlt,htd]
   rw[est];rw[ub (f:=F),ub (f:=fun j=>decide (j<i))]
   ·intro j hj hf;refine .inl (d2 i j hi hj ?_ t hdi);intro e;subst e;simp at hf
   ·intro j hj hf;refine .inl (d2 i j hi hj ?_ t hdi);intro e;subst e;rw[hFi]at hf;simp at hf
  ·intro hf t ht';rw[est];refine DH fun j hj hne=>?_;obtain⟨o,ho⟩:=hget j hj;have h1:=(hpart j o hj ho).2 hne;have h2:j8 kind o=true:=by
    simp only[diN,nQ,hk,List.all_eq_true]at hf;have:=hf o (List.mem_of_getElem? (i:=j) (by rw[List.getElem?_take,if_pos hj];exact ho));simpa [h1]using this
   refine⟨hkill j o hj ho h2,fun hdj=>?_⟩;have hd:t∈dM ops.toList ops[i]:=by
    unfold dM;rw[List.mem_append];exact .inl (List.mem_filterMap.2 ⟨.tmp t,by simpa using ht',rfl⟩)
   by_cases e:i=j
   ·subst e;simp[hFi]
   ·rcases d3 i j hi hj e _ t h0' hdj hd with⟨h1,h2⟩|⟨h1,h2⟩
    ·rw[kh hcl hei h2];simp[h1]
    ·have:F j=false:=by
      cases hF:F j with
      | false=>rfl
      | true=>have:=kh hcl (hcl j hF) h2;rw[hFi]at this;simp at this
     rw[this];simp;omega
  ·intro t ht;rcases ht with he|⟨ks,hks,hkt⟩
   rotate_left
   ·have h0:∀ f:Nat->Bool,(bK ops.toList st δs f k).e t=st.e t:=by
     intro f;refine xB fun j hj _=>?_;obtain⟨o,ho⟩:=hget j hj;cases hn:(δs j).ne with
     | none=>exact .inl rfl
     | some x =>
      have h1:=(hpart j o hj ho).2 (by rw[hn];simp);refine .inr ⟨fun e=>?_,?_⟩
      ·have hmem:t∈ks:=by
        have hb:bk=true:=by
         cases bk with
         | true=>rfl
         | false=>simp[diN]at hks
        subst hb;simp only[diN,if_true,Option.some.injEq]at hks;rw[<-hks];unfold Rf;rw[hk];refine List.mem_filterMap.2 ⟨o,?_,?_⟩
        ·exact List.mem_of_getElem? (i:=j) (by rw[List.getElem?_take,if_pos hj];exact ho)
        ·simp only[bO,ho,Option.bind_some]at e;simp[h1,e]
       have hmem:=List.contains_iff_mem.2 hmem;rw[hkt]at hmem;simp at hmem
      ·rcases hstep j o hj ho with⟨_,hr⟩|⟨_,hr⟩
       ·exact Lz hr (by rw[hks];simp)
       ·rw[hr]
    rw[est,h0,h0]
   have none:∀ f:Nat->Bool,(bK ops.toList st δs f k).e=st.e:=by
    intro f;refine ua fun j hj _=>?_;obtain⟨o,ho⟩:=hget j hj;cases hn:(δs j).ne with
    | none=>rfl
    | some x =>
     have h1:=(hpart j o hj ho).2 (by rw[hn];simp);have:(nQ kind ops.toList).eff=true:=by
      simp only[nQ,hk,List.any_eq_true];exact⟨o,List.mem_of_getElem? (i:=j) (by rw[List.getElem?_take,if_pos hj];exact ho),h1⟩
     have he:(nQ kind ops.toList).eff=false:=he;rw[he]at this;simp at this
   rw[est,none,none]
  ·intro he;cases hfr:j8 kind ops[i]with
   | true =>
    refine .inl ⟨rfl,fun d hdd=>?_⟩;have hdi:bO ops.toList i=some d:=by simp[bO,hlt,hdd]
    have none:∀ f:Nat->Bool,f i=false->(bK ops.toList st δs f k).e d=st.e d:=by
     intro f hf;refine xB fun j hj hfj=>?_;obtain⟨o,ho⟩:=hget j hj;have hij:i≠j:=by intro e;subst e;rw[hf]at hfj;simp at hfj
     rcases d5 i j hi hj hij _ o h0' ho he with h2|⟨_,h2⟩
     ·refine .inl ?_;cases hn:(δs j).ne with
      | none=>rfl
      | some x =>
       have h1:=(hpart j o hj ho).2 (by rw[hn];simp);rw[h2]at h1;simp at h1
     ·exact .inr ⟨d2 i j hi hj hij d hdi,hkill j o hj ho h2⟩
    rw[est,none F hFi,none _ au]
   | false =>
   refine .inr ?_;have none:∀ f:Nat->Bool,f i=false->(bK ops.toList st δs f k).e=st.e:=by
    intro f hf;refine ua fun j hj hfj=>?_;obtain⟨o,ho⟩:=hget j hj;have hij:i≠j:=by intro e;subst e;rw[hf]at hfj;simp at hfj
    have h2:=(d5 i j hi hj hij _ o h0' ho he).resolve_right (fun h=>by rw[hfr]at h;simp at h);cases hn:(δs j).ne with
    | none=>rfl
    | some x =>
     have h1:=(hpart j o hj ho).2 (by rw[hn];simp);rw[h2]at h1;simp at h1
   rw[est,none F hFi,none _ au]
 ·rw[gX S (hgd.trans hg)];simp only[Bool.false_eq_true,if_false];refine⟨fun _ _=>trivial,next G _ _ ?_⟩
  rw[hr,<-bJ];exact jV S (hN i _ h0)
theorem oz {p q:Nat->Bool} (h:∀ j,q j=true->p j=true) {i:Nat} (hp:p i=true) (hq:q i=false):∀{l:List Nat},i∈l->l.countP q<l.countP p
 | [],hi=>by simp at hi
 | x::l,hi=>by
  have hle:l.countP q<=l.countP p:=List.countP_mono_left fun j _ hj=>h j hj;rw[List.countP_cons,List.countP_cons];rcases List.mem_cons.1 hi with rfl|hi
  ·simp[hp,hq];omega
  ·have:=oz h hp hq hi;by_cases hx:q x=true
   ·simp[hx,h x hx];exact this
   ·simp[hx];omega
theorem cj (n j:Nat):(Array.replicate n false).getD j false=false:=by
 rw[Array.getD_eq_getD_getElem?,Array.getElem?_replicate];split<;>rfl
def Rt (st st':St):Prop:=∀(W0:cW) (M0:Nat->Prop) (N:Nat) (G:Gh) (w:World) (a:Act),Sim W0 M0 N st G w a->∃ G',Sim W0 M0 N st' G' w a
theorem GC {bk:Bool} (hN:∀(i:Nat) o,ops[i]?=some o->∀ d,o.dst=some d->d<N) (hok:kW kind ops.toList=true)
  (hstep:∀ i o,i<a7 kind ops.toList->ops.toList[i]?=some o->rK P kind (some (diN kind ops.toList bk)) ops (bK ops.toList st δs (fun _=>true) i) o (δs i))
  (hK:∃ s',Rt (bK ops.toList st δs (fun _=>true) (a7 kind ops.toList)) s'/\jD P kind none ops (ops.toList.drop (a7 kind ops.toList)) K s') (hQ:∀ a' w',Met W0 M0 N K a' w'->Q .normal a' w') :
  ∀(fuel:Nat) (listed:Array Bool) (a:Act) (w:World),listed.size=ops.size->(List.range ops.size).countP (fun j => !listed.getD j false)<=fuel ->
   (∀ j,listed.getD j false=true->dX ops.toList (fun j=>listed.getD j false) j)->Inv P kind W0 M0 N ops st δs K (fun j=>listed.getD j false) a w ->
   wpAnyIn (fen ρ) 0 P .any ops Q fuel listed a w:=by
 obtain⟨d1,d2,d3,d4,d5⟩:=Au hok;have hlen:a7 kind ops.toList<=ops.size:=by
  have:=(List.takeWhile_sublist (l:=ops.toList) (stable kind)).length_le;simpa [a7]using this
 have hdone:∀(listed:Array Bool) (a:Act) (w:World),(∀ j,j<ops.size->listed.getD j false=true)->Inv P kind W0 M0 N ops st δs K (fun j=>listed.getD j false) a w->Q .normal a w:=by
  intro listed a w hall hI;refine hQ a w ?_;cases hI with
  | head h G S =>
   have hk:a7 kind ops.toList=ops.size:=by
    rcases Nat.lt_or_ge (a7 kind ops.toList) ops.size with h1|h1
    ·have:=h _ (ay _);rw[hall _ h1]at this;simp at this
    ·omega
   obtain⟨s1,hw,hK⟩:=hK;rw[List.drop_eq_nil_of_le ar]at hK;rw[eY (g:=fun _=>true) fun j hj=>hall j aw]at S;obtain⟨G1,S1⟩:=hw _ _ _ _ _ _ S;exact⟨_,G1,hK,S1⟩
  | tail m hm h1 h2 st' G S hK' =>
   have:ops.size<=m:=by
    rcases Nat.lt_or_ge m ops.size with h3|h3
    ·have:=h2 m (ay _);rw[hall _ h3]at this;simp at this
    ·exact h3
   rw[List.drop_eq_nil_of_le ar]at hK';exact⟨_,G,hK',S⟩
 have hready:∀(listed:Array Bool),listed.size=ops.size->Region.ready .any ops listed=[]->∀ j,j<ops.size->listed.getD j false=true:=by
  intro listed hsz hr j
  induction j using Nat.strongRecOn with
  | _ j ih =>
   intro hj;cases hF:listed.getD j false with
   | true=>rfl
   | false =>
    exfalso;have:j∈Region.ready .any ops listed:=by
     refine mem_ready.2 ⟨?_,ops[j],by simp[hj],?_⟩
     ·rw[Array.getD_eq_getD_getElem?]at hF ⊢;have h1:j<listed.size:=aw;simp only[Array.getElem?_eq_getElem h1,Option.getD_some]at hF ⊢;exact hF
     ·intro e he hb;have hlt:=d1 j ops[j] (by simp[hj]) e he hb;exact ih e.on hlt aw
    rw[hr]at this;simp at this
 intro fuel
 induction fuel with
 | zero =>
  intro listed a w hsz hc hcl hI;have hall:∀ j,j<ops.size->listed.getD j false=true:=by
   intro j hj;have h0:(List.range ops.size).countP (fun j => !listed.getD j false)=0:=aw;have:=(List.countP_eq_zero.1 h0) j (List.mem_range.2 hj);simpa using this
  refine⟨?_,hdone listed a w hall hI⟩;cases hr:Region.ready .any ops listed with
  | nil=>rfl
  | cons j l =>
   have hj:j∈Region.ready .any ops listed:=by rw[hr];simp
   obtain⟨h1,o,ho,_⟩:=mem_ready.1 hj;have hjs:j<ops.size:=(Array.getElem?_eq_some_iff.1 ho).1;have h2:=hall j hjs;rw[Array.getD_eq_getD_getElem?]at h1 h2;have h3:j<listed.size:=aw;simp only[Array.getElem?_eq_getElem h3,Option.getD_some]at h1 h2;rw[h1]at h2;simp at h2
 | succ fuel ih =>
  intro listed a w hsz hc hcl hI;refine⟨fun hr=>hdone listed a w (hready listed hsz hr) hI,?_⟩;intro i hi;obtain⟨h1,o,ho,he⟩:=mem_ready.1 hi;have hlt:i<ops.size:=(Array.getElem?_eq_some_iff.1 ho).1;have h3:i<listed.size:=aw;have hFi:listed.getD i false=false:=by
   rw[Array.getD_eq_getD_getElem?]at h1 ⊢;simp only[Array.getElem?_eq_getElem h3,Option.getD_some]at h1 ⊢;exact h1
  have hei:dX ops.toList (fun j=>listed.getD j false) i:=by
   intro o' ho' e he' hb;simp only[Array.getElem?_toList,ho,Option.some.injEq]at ho';subst ho';exact he e he' hb
  have hF':(fun j=>(listed.setIfInBounds i true).getD j false)=fun j=>listed.getD j false || j == i:=by
   funext j;by_cases e:j=i
   ·subst e;simp[h3]
   ·rw[getD_set_ne false (Ne.symm e)];have:(j == i)=false:=by simp[e]
    simp[this]
  have hnext:∀ a' w',Inv P kind W0 M0 N ops st δs K (fun j=>listed.getD j false || j == i) a' w'->wpAnyIn (fen ρ) 0 P .any ops Q fuel (listed.setIfInBounds i true) a' w':=by
   intro a' w' hI';refine ih _ a' w' (by simp[hsz]) ?_ ?_ (by rw[hF'];exact hI')
   ·have:=oz (p:=fun j => !listed.getD j false) (q:=fun j => !(listed.setIfInBounds i true).getD j false) (i:=i) ?_ (by simp[hFi]) (by simp[h3]) (List.mem_range.2 hlt)
    ·omega
    ·intro j hj;cases hh:listed.getD j false with
     | false=>rfl
     | true=>rw[getD_set_true hh]at hj;simp at hj
   ·intro j hj o' ho' e he' hb;have hj':(listed.getD j false || j == i)=true:=by rw[<-congrFun hF' j];exact hj
    refine getD_set_true ?_;simp only[Bool.or_eq_true,beq_iff_eq]at hj';rcases hj' with hj'|hj'
    ·exact hcl j hj' o' ho' e he' hb
    ·subst hj';exact hei o' ho' e he' hb
  have hall_before:a7 kind ops.toList<=i->∀ j,j<i->listed.getD j false=true:=by
   intro hki j hj;exact kh (F:=fun j=>listed.getD j false) hcl hei (d4 j i hki (by simpa using hlt) hj)
  cases hI with
  | head h G S =>
   rcases Nat.lt_or_ge i (a7 kind ops.toList)with hik|hik
   ·exact wB hN d2 d3 d5 hstep hcl hik hlt hFi hei S fun G1 a1 w1 S1=>hnext a1 w1 (.head (fun j hj=>by
     have:(j == i)=false:=by simp;omega
     simp[h j hj,this]) G1 S1)
   ·have hb:=hall_before hik;have hik':i=a7 kind ops.toList:=by
     rcases Nat.lt_or_ge (a7 kind ops.toList) i with h4|h4
     ·have:=h _ (ay _);rw[hb _ h4]at this;simp at this
     ·omega
    rw[eY (g:=fun _=>true) fun j hj=>hb j aw]at S;obtain⟨s1,hw,hK⟩:=hK;obtain⟨G1,S1⟩:=hw _ _ _ _ _ _ S;exact oi hN (ay _) (fun j hj=>hb j aw) h S1 hK hik' hlt hnext
  | tail m hm h1 h2 st' G S hK' =>
   have him:m<=i:=by
    rcases Nat.lt_or_ge i m with h4|h4
    ·rw[h1 i h4]at hFi;simp at hFi
    ·exact h4
   have hb:=hall_before aw;have:i=m:=by
    rcases Nat.lt_or_ge m i with h4|h4
    ·have:=h2 m (ay _);rw[hb m h4]at this;simp at this
    ·omega
   exact oi hN hm h1 h2 S hK' this hlt hnext
theorem CM (hm:P.follows .mixedOrders=true) {id:Nat} (hN:∀(i:Nat) o,ops[i]?=some o->∀ d,o.dst=some d->d<N) (hok:kW kind ops.toList=true) (S:Sim W0 M0 N st G w a)
  (h:∃ bk,jD P kind (some (diN kind ops.toList bk)) ops (ops.toList.take (a7 kind ops.toList)) (fun s=>∃ s',Rt s s'/\jD P kind none ops (ops.toList.drop (a7 kind ops.toList)) K s') st) (hQ:∀ a' w',Met W0 M0 N K a' w'->Q .normal a' w'):(Code.region id ops true).wpIn (fen ρ) 0 P Q a w:=by
 refine wpIn_region_any hm ?_;obtain⟨bk,h⟩:=h;have hlen:a7 kind ops.toList<=ops.toList.length:=(List.takeWhile_sublist _).length_le;obtain⟨δs,_,g2,g3⟩:=pq (L:=ops.toList) (ops.toList.take (a7 kind ops.toList)) 0 st st (fun _=>{ v := .any })
  (fun i hi=>by simp at hi;simp[List.getElem?_take];omega) (fun o ho=>by
   obtain⟨i,hi⟩:=List.getElem?_of_mem ho;rw[List.getElem?_take]at hi;split at hi
   ·rename_i hlt;exact kP hlt hi
   ·simp at hi) rfl h
 have e:(ops.toList.take (a7 kind ops.toList)).length=a7 kind ops.toList:=by rw[List.length_take];omega
 rw[e,Nat.zero_add]at g2 g3;refine GC (bk:=bk) (δs:=δs) hN hok (fun i o hi ho=>g3 i o aw hi ho) g2 hQ _ _ _ _ au ?_ ?_ (.head (fun j _=>?_) G ?_)
 ·exact ax List.countP_le_length au
 ·intro j hj;rw[cj]at hj;simp at hj
 ·exact cj _ _
 ·have:∀ m,bK ops.toList st δs (fun j=>(Array.replicate ops.size false).getD j false) m=st:=by
   intro m
   induction m with
   | zero=>rfl
   | succ m ih=>simp only[bK,cj,Bool.false_eq_true,if_false];simpa only[cj]using ih
  rw[this];exact S.drew
end
end Go.AM
