/- Lemmas, part 2 of 23. No condition. -/
import Derived.Test.YtcmfkhicjhliaaaGreatPZ500
set_option maxRecDepth 65536
set_option linter.unusedSimpArgs false
set_option linter.unusedVariables false
set_option linter.unusedSectionVars false
namespace Go.AM
theorem pr (b off j:Nat):(⟨b,off,none⟩:Addr).add j=⟨b,off+j,none⟩:=by
 unfold Addr.add;split<;>simp_all
theorem bH {P:Program} {T:TypeId} {ti:TI} (h:tinfo P T=some ti):∃ i d,P.info? T=some i/\P.underlying T=some d /\
  ti={ agg:=Ax d,size:=i.size,bytes:=i.bytes,zero:=i.zero.bind rV,elem:=qp d,arr:=CS d,flds:=u6 d }:=by
 unfold tinfo at h;split at h
 ·rename_i i d hi hd;exact⟨i,d,hi,hd,(Option.some.inj h).symm⟩
 ·simp at h
section
variable {P:Program} {kind:FuncId->CK} {D:Option DI} {W0:cW} {M0:Nat->Prop} {N:Nat} {st:St} {G:Gh} {w:World} {a:Act} {o:Oper} {Q:Exit->Act->World->Prop} {δ:Dl}
theorem kS {t:TypeId} {i:TypeInfo} (h:P.info? t=some i) (w:World):(typeInfo t).run P w = .ok i w:=by simp[typeInfo,h]
theorem dU {t:TypeId} {i:TypeInfo} (h:P.info? t=some i) (w:World):(sizeOf t).run P w = .ok i.size w:=by simp[sizeOf,kS h]
theorem cZ (w:World) (x:Obj):(w.alloc x).heap[w.heap.size]?=some x:=by
 show(w.heap.push x)[w.heap.size]?=_;simp
theorem bF {y:Value} {w':World} {next:Act->World->Prop} (h:(execOp a.eval o).run P w = .ok (.value y) w') (hn:next (a.put o.dst y) w'):o.wp P a w next Q:=by
 simp only[Oper.wp,h,Oper.upon];exact hn
theorem ym (st:St) (dst:Option Tmp) (v:AV):st.app dst { v:=v }=st.put dst v:=by cases dst<;>rfl
def Aft (W0:cW) (M0:Nat->Prop) (N:Nat) (st':St) (a':Act) (w':World):Prop:=∃ G',Sim W0 M0 N st' G' w' a'
theorem bL (S:Sim W0 M0 N st G w a) (hd:∀ d,o.dst=some d->d<N) {y:Value} {v:AV} (h:(execOp a.eval o).run P w = .ok (.value y) w)
  (hv:eH w (G.M M0) st G v y):o.wp P a w (Aft W0 M0 N (st.app o.dst { v:=v })) Q:=by
 refine bF h ⟨G,?_⟩;rw[ym];exact S.put hd (bq.refl _ _) (fun _=>hv)
theorem CT {M:Nat->Prop} {x:Value} (h:x.oneCell'=true):cw w M (.v x) x:=by
 simp only[cw];exact⟨trivial,h⟩
theorem Sim.ev (S:Sim W0 M0 N st G w a) (x:Operand):eH w (G.M M0) st G (st.ev x) (a.eval x):=by
 cases x with
 | tmp n=>exact S.fr n
 | const v =>
  show eH _ _ _ _ (mA v) v;unfold mA;split
  ·exact⟨none,0,rfl,rfl,.inl rfl⟩
  ·rename_i cs;split
   ·rename_i hall;exact⟨cs,rfl,fo (fun x hx=>List.all_eq_true.1 hall x hx)⟩
   ·trivial
  ·trivial
  ·rename_i h1 h2 h3;refine CT (w:=w) (M:=G.M M0) ?_;cases v<;>first|rfl|(exfalso;exact h2 _ rfl)|(exfalso;exact h3 _ rfl)
 | global g=>trivial
 | func f=>exact CT (w:=w) (M:=G.M M0) rfl
theorem jW {x y:Value} (h:eH w (G.M M0) st G (sc x) y):y=x:=by
 have:cw w (G.M M0) (.v x) y:=h;simp only[cw]at this;exact this.1
theorem t6 {x:Value} (h:x.oneCell'=true):eH w (G.M M0) st G (sc x) x:=CT (w:=w) (M:=G.M M0) h
theorem AJ {M:Nat->Prop}:∀{cs:List C} {ys l:List Value},aY w M cs ys->vQ cs=some l->ys=l
 | [],[],_,_,h=>by simp[vQ]at h;exact h.symm
 | .v x::cs,y::ys,l,hr,h=>by
  simp only[vQ,Option.map_eq_some_iff]at h;obtain⟨l',h',rfl⟩:=h;have h1:=hr.1;simp only[cw]at h1;rw[h1.1,AJ hr.2 h']
 | .lst _::_,_::_,_,_,h=>by simp[vQ]at h
 | [],_::_,_,hr,_=>hr.elim
 | _::_,[],_,hr,_=>hr.elim
theorem ri {v:AV} {x y:Value} (h:eH w (G.M M0) st G v y) (hp:v.pv=some x):y=x:=by
 unfold AV.pv at hp;split at hp
 ·cases hp;exact jW h
 ·rename_i cs;obtain⟨ys,rfl,hc⟩:=h;simp only[Option.map_eq_some_iff]at hp;obtain⟨l,hl,rfl⟩:=hp;have:=AJ hc hl;rw[<-this]
 ·simp at hp
theorem rowcond {g n:Nat} (h:(Nat.blt 0 g && Nat.beq n g)=true):n=g/\0<g:=by
 simp only[Bool.and_eq_true]at h;exact⟨Nat.eq_of_beq_eq_true h.2,by simpa [Nat.blt_eq]using h.1⟩
theorem Sim.rowAt (S:Sim W0 M0 N st G w a) {t:Nat} (hg:0<(st.e t).gen) (hne:(st.e t).rs≠[]) :
  ∃ b o,G.E t=some ⟨b,o,none⟩/\b<w.heap.size/\((st.e t).m=false->¬ G.M M0 b)/\aS w (G.M M0) (st.e t).rs b o (st.e t).sz:=by
 obtain⟨h1,_⟩:=S.en t hg;exact h1.resolve_left hne
theorem lh (S:Sim W0 M0 N st G w a) {v:AV} {y:Value} {x:IV} (h:eH w (G.M M0) st G v y) (hx:st.toIV v=some x):jc w (G.M M0) x y:=by
 cases v with
 | i x'=>simp only[St.toIV,Option.some.injEq]at hx;subst hx;exact h
 | fl rs =>
  simp only[St.toIV,Option.some.injEq]at hx;subst hx;obtain⟨a,len,rfl,hl,hr⟩:=h;show cw _ _ _ _;simp only[cw];exact⟨a,len,len,rfl,hl,ay _,hr⟩
 | sl t g len =>
  simp only[St.toIV]at hx;cases hc:(Nat.blt 0 g && Nat.beq (st.e t).gen g && !(st.e t).m)with
  | false=>simp[hc]at hx
  | true =>
   simp only[hc,cond_true,Option.some.injEq]at hx;subst hx;rw[Bool.and_eq_true]at hc;obtain⟨hg,hg0⟩:=rowcond hc.1;have hm:(st.e t).m=false:=by simpa using hc.2
   obtain⟨hle,rfl⟩:=h.2 hg hg0;obtain⟨_,h2,_,_⟩:=S.en t aw;show cw _ _ _ _;simp only[cw];refine⟨_,_,_,rfl,ar,aw,?_⟩;by_cases hne:(st.e t).rs=[]
   ·left;simp[hne]
   ·obtain⟨b,o,e1,e2,e3,e4⟩:=S.rowAt aw hne;exact .inr ⟨b,o,_,e1,e2,e3 hm,e4.take _⟩
 | _=>simp[St.toIV]at hx
theorem nq (S:Sim W0 M0 N st G w a) {v:AV} {y:Value} {rs:List (List C)} (h:eH w (G.M M0) st G v y) (hx:st.rows v=some rs) :
  ∃ p cap,y = .slice p rs.length cap/\rs.length<=cap/\(rs=[]\/∃ b o sz,p=some ⟨b,o,none⟩/\b<w.heap.size/\aS w (G.M M0) rs b o sz):=by
 cases v with
 | i x =>
  cases x with
  | c c =>
   cases c with
   | v x=>simp[St.rows]at hx
   | lst l =>
    simp only[St.rows,Option.some.injEq]at hx;subst hx;have h:cw w (G.M M0) (.lst l) y:=h;simp only[cw]at h;obtain⟨p,len,cap,rfl,rfl,hc,hr⟩:=h;refine⟨p,cap,rfl,hc,?_⟩;rcases hr with hr|⟨b,o,sz,e1,e2,_,e4⟩
    ·exact .inl hr
    ·exact .inr ⟨b,o,sz,e1,e2,e4⟩
  | g cs=>simp[St.rows]at hx
 | fl l =>
  simp only[St.rows,Option.some.injEq]at hx;subst hx;obtain⟨p,len,rfl,rfl,hr⟩:=h;refine⟨p,_,rfl,ay _,?_⟩;rcases hr with hr|⟨b,o,sz,e1,e2,_,e4⟩
  ·exact .inl hr
  ·exact .inr ⟨b,o,sz,e1,e2,e4⟩
 | sl t g len =>
  simp only[St.rows]at hx;cases hc:(Nat.blt 0 g && Nat.beq (st.e t).gen g)with
  | false=>simp[hc]at hx
  | true =>
   simp only[hc,cond_true,Option.some.injEq]at hx;subst hx;obtain⟨hg,hg0⟩:=rowcond hc;obtain⟨hle,rfl⟩:=h.2 hg hg0;obtain⟨_,h2,_,_⟩:=S.en t aw;refine⟨_,_,by rw[List.length_take,Nat.min_eq_left hle],ar,?_⟩;by_cases hne:(st.e t).rs=[]
   ·left;simp[hne]
   ·obtain⟨b,o,e1,e2,_,e4⟩:=S.rowAt aw hne;exact .inr ⟨b,o,_,e1,e2,e4.take _⟩
 | _=>simp[St.rows]at hx
theorem D4 (S:Sim W0 M0 N st G w a) {v:AV} {y:Value} {n:Nat} (h:eH w (G.M M0) st G v y) (hx:st.len v=some n) :
  ∃ p cap,y = .slice p n cap/\n<=cap:=by
 cases v with
 | sl t g len =>
  simp only[St.len]at hx;cases hc:(Nat.blt 0 g && Nat.beq (st.e t).gen g)with
  | false=>simp[hc]at hx
  | true =>
   simp only[hc,cond_true,Option.some.injEq]at hx;subst hx;obtain⟨hg,hg0⟩:=rowcond hc;obtain⟨hle,rfl⟩:=h.2 hg hg0;obtain⟨_,h2,_,_⟩:=S.en t aw;exact⟨_,_,rfl,aw⟩
 | i x =>
  cases x with
  | c c =>
   cases c with
   | v x=>simp[St.len]at hx
   | lst l =>
    simp only[St.len,Option.some.injEq]at hx;subst hx;have h:cw w (G.M M0) (.lst l) y:=h;simp only[cw]at h;obtain⟨p,len,cap,rfl,rfl,hc,_⟩:=h;exact⟨p,cap,rfl,hc⟩
  | g cs=>simp[St.len]at hx
 | fl l =>
  simp only[St.len,Option.some.injEq]at hx;subst hx;obtain⟨p,len,rfl,rfl,_⟩:=h;exact⟨p,_,rfl,ay _⟩
 | _=>simp[St.len]at hx
theorem wA {T:TypeId} {d:TypeDesc} (h:P.underlying T=some d) (w:World):(isAgg T).run P w = .ok (Ax d) w:=by
 cases d<;>simp[isAgg,run_underlying h,Ax]
theorem sj {T:TypeId} {ti:TI} {cs:List C} {iv:IV} {b off:Nat} {ys:List Value} {M:Nat->Prop} (hti:tinfo P T=some ti) (hl:ldv ti cs=some iv)
  (hc:aY w M cs ys) (hcell:∀ j,j<cs.length->w.cell? ⟨b,off+j,none⟩=ys[j]?) :
  ∃ y,(loadVar T ⟨b,off,none⟩).run P w = .ok y w/\jc w M iv y:=by
 obtain⟨i,d,hi,hd,rfl⟩:=bH hti;have hlen:=hc.length;unfold ldv at hl;dsimp only at hl;simp only[loadVar,Sem.run_bind,wA hd,Result.andThen_ok];cases hagg:Ax d with
 | true =>
  rw[hagg]at hl;simp only[if_true]at hl;split at hl
  ·rename_i hle;cases hl;refine⟨.agg (ys.take i.size).toArray,?_,⟨_,rfl,by simpa using hc.take i.size⟩⟩;have:=run_loadCells_list (P:=P) w ⟨b,off,none⟩ (ys.take i.size) (fun j v hj=>by
    rw[List.getElem?_take]at hj;split at hj
    ·rw[pr,hcell j aw];exact hj
    ·simp at hj)
   rw[List.length_take,Nat.min_eq_left aw]at this;simp[Sem.run_bind,dU hi,this]
  ·simp at hl
 | false =>
  rw[hagg]at hl;simp only[Bool.false_eq_true,if_false]at hl;cases cs with
  | nil=>simp at hl
  | cons c cs =>
   cases hl;cases ys with
   | nil=>exact hc.elim
   | cons y ys =>
    have:=hcell 0 au;simp only[Nat.add_zero,List.getElem?_cons_zero]at this;refine⟨y,by simp[run_load,this],hc.1⟩
theorem sG (S:Sim W0 M0 N st G w a) {v:AV} {y:Value} {cs:List C} (h:eH w (G.M M0) st G v y) (hc:st.cellsOf D v cs) :
  ∃ b off ys,y = .pointer (some ⟨b,off,none⟩)/\aY w (G.M M0) cs ys/\∀ j,j<cs.length->w.cell? ⟨b,off+j,none⟩=ys[j]?:=by
 cases v with
 | ip l =>
  simp only[St.cellsOf]at hc;subst hc;obtain⟨b,off,rfl,_,_,hcs⟩:=h;obtain⟨ys,h1,h2⟩:=hcs.reps;exact⟨b,off,ys,rfl,h1,h2⟩
 | bp t g off =>
  obtain⟨hg,hg0,_,rfl⟩:=hc;obtain rfl:=h.2 hg hg0;obtain⟨_,ys,T,h2,h3⟩:=S.bx t aw;refine⟨_,off,ys.toList.drop off,rfl,h3.drop off,fun j hj=>?_⟩;rw[bR h2,List.getElem?_drop];simp
 | ep t g idx off =>
  obtain⟨hg,hg0,_,r,hr,rfl⟩:=hc;obtain⟨b,o,hE,rfl⟩:=h.2 hg hg0;have hne:(st.e t).rs≠[]:=by intro e;rw[e]at hr;simp at hr
  obtain⟨b',o',e1,e2,_,e4⟩:=S.rowAt aw hne;obtain⟨rfl,rfl⟩:b=b'/\o=o':=by rw[hE]at e1;simp at e1;exact e1
  obtain⟨_,hcs⟩:=e4.get hr;obtain⟨ys,h1,h2⟩:=hcs.reps;refine⟨b,_,ys.drop off,rfl,h1.drop off,fun j hj=>?_⟩;rw[List.length_drop]at hj;rw[List.getElem?_drop,<-h2 (off+j) aw];congr 2;omega
 | _=>exact hc.elim
theorem Co (S:Sim W0 M0 N st G w a) (hd:∀ d,o.dst=some d->d<N) {T:TypeId} {x:Operand} (ho:o.op = .load T x) (h:bu P kind D o st δ) :
  o.wp P a w (Aft W0 M0 N (st.app o.dst δ)) Q:=by
 unfold bu at h;rw[ho]at h;obtain⟨ti,cs,iv,h1,h2,h3,rfl⟩:=h;obtain⟨b,off,ys,e1,e2,e3⟩:=sG S (S.ev x) h2;obtain⟨y,hy,hr⟩:=sj h1 h3 e2 e3;refine bL S hd (y:=y) ?_ hr;simp[execOp,ho,Instr.loadAt,e1,Instr.sureAddr,hy]
theorem GL (S:Sim W0 M0 N st G w a) (hd:∀ d,o.dst=some d->d<N) {T:TypeId} {x:Operand} (ho:o.op = .box T x) (h:bu P kind D o st δ) :
  o.wp P a w (Aft W0 M0 N (st.app o.dst δ)) Q:=by
 unfold bu at h;rw[ho]at h;obtain⟨d,v,h1,h2,_,rfl⟩:=h;have hr:=lh S (S.ev x) h2;refine bF (y := .pointer (some ⟨w.heap.size,0,none⟩)) (w':=w.alloc (.cells (a.eval x).cells T)) (by simp[execOp,ho,Instr.box,newVar,newRow]) ?_;rw[h1];have hb:bq w.heap.size w (w.alloc (.cells (a.eval x).cells T)):=(bq.refl _ _).alloc (ay _) _;have:=S.newBox (d:=d) (B:=w.heap.size) (cs:=v.cells) (ys:=(a.eval x).cells) (T:=T) (ne:=none) (kill:=none) (hd d h1) hb (ay _) au (cZ _ _) hr.cells;exact⟨_,this.resolve_right au⟩
theorem AI (S:Sim W0 M0 N st G w a) (hd:∀ d,o.dst=some d->d<N) {T:TypeId} (ho:o.op = .alloc T) (h:bu P kind D o st δ) :
  o.wp P a w (Aft W0 M0 N (st.app o.dst δ)) Q:=by
 unfold bu at h;rw[ho]at h;obtain⟨d,ti,cs,h1,h2,h3,rfl⟩:=h;obtain⟨i,ds,hi,hds,rfl⟩:=bH h2;dsimp only at h3;obtain⟨z,hz,hz2⟩:=Option.bind_eq_some_iff.1 h3;unfold rV at hz2;split at hz2
 ·rename_i hall;cases hz2;refine bF (y := .pointer (some ⟨w.heap.size,0,none⟩)) (w':=w.alloc (.cells z.cells T)) (by simp[execOp,ho,Instr.alloc,newVar,newRow,zeroValue,kS hi,hz]) ?_;rw[h1];have hb:bq w.heap.size w (w.alloc (.cells z.cells T)):=(bq.refl _ _).alloc (ay _) _;have:=S.newBox (d:=d) (B:=w.heap.size) (cs:=z.cells.toList.map fK) (ys:=z.cells) (T:=T) (ne:=none) (kill:=none) (hd d h1) hb (ay _) au (cZ _ _) (fo fun x hx=>List.all_eq_true.1 hall x hx);exact⟨_,this.resolve_right au⟩
 ·simp at hz2
theorem Cc (S:Sim W0 M0 N st G w a) (hd:∀ d,o.dst=some d->d<N) {c x y:Operand} (ho:o.op = .pick c x y) (h:bu P kind D o st δ) :
  o.wp P a w (Aft W0 M0 N (st.app o.dst δ)) Q:=by
 unfold bu at h;rw[ho]at h;obtain⟨t,h1,rfl⟩:=h;have hc:=S.ev c;rw[h1]at hc;have hc:=jW hc;refine bL S hd (y:=if t then a.eval x else a.eval y) (by cases t<;>simp[execOp,ho,hc,asBool]) ?_
 cases t
 ·exact S.ev y
 ·exact S.ev x
theorem us (S:Sim W0 M0 N st G w a) (hd:∀ d,o.dst=some d->d<N) {x:Operand} (ho:o.op = .move x\/o.op = .assign x) (h:bu P kind D o st δ) :
  o.wp P a w (Aft W0 M0 N (st.app o.dst δ)) Q:=by
 have h':δ={ v:=st.ev x }:=by unfold bu at h;rcases ho with ho|ho<;>(rw[ho]at h;exact h)
 subst h';exact bL S hd (y:=a.eval x) (by rcases ho with ho|ho<;>simp[execOp,ho]) (S.ev x)
theorem eX (S:Sim W0 M0 N st G w a) (hd:∀ d,o.dst=some d->d<N) {z:Value} (hz:z.oneCell'=true) (hrun:(execOp a.eval o).run P w = .ok (.value z) w) :
  o.wp P a w (Aft W0 M0 N (st.app o.dst { v:=sc z })) Q :=
 bL S hd hrun (t6 hz)
theorem AH (S:Sim W0 M0 N st G w a) (hd:∀ d,o.dst=some d->d<N) {op:BinOp} {T U:TypeId} {x y:Operand} (ho:o.op = .binOp op T x y U) (h:bu P kind D o st δ) :
  o.wp P a w (Aft W0 M0 N (st.app o.dst δ)) Q:=by
 unfold bu at h;rw[ho]at h;obtain⟨p,q,z,h1,h2,h3,h4,rfl⟩:=h;have e1:=ri (S.ev x) h1;have e2:=ri (S.ev y) h2;refine eX S hd h4 ?_;have:=h3 w;simp only[Sem.run_bind]at this;simp only[execOp,ho,e1,e2,Sem.run_bind];cases hg:(eqGuard op T x y p q).run P w with
 | ok u w'=>rw[hg]at this;simp only[Result.andThen_ok]at this;simp[this]
 | halt e w'=>rw[hg]at this;simp at this
theorem BM (S:Sim W0 M0 N st G w a) (hd:∀ d,o.dst=some d->d<N) {op:UnOp} {T:TypeId} {x:Operand} (ho:o.op = .unOp op T x) (h:bu P kind D o st δ) :
  o.wp P a w (Aft W0 M0 N (st.app o.dst δ)) Q:=by
 unfold bu at h;rw[ho]at h;obtain⟨p,z,h1,h3,h4,rfl⟩:=h;have e1:=ri (S.ev x) h1;refine eX S hd h4 ?_;simp[execOp,ho,e1,h3 w]
theorem vL (S:Sim W0 M0 N st G w a) (hd:∀ d,o.dst=some d->d<N) {T U:TypeId} {x:Operand} (ho:o.op = .convert T U x) (h:bu P kind D o st δ) :
  o.wp P a w (Aft W0 M0 N (st.app o.dst δ)) Q:=by
 unfold bu at h;rw[ho]at h;obtain⟨p,z,h1,h3,h4,rfl⟩:=h;have e1:=ri (S.ev x) h1;refine eX S hd h4 ?_;simp[execOp,ho,e1,h3 w]
theorem Ak (S:Sim W0 M0 N st G w a) (hd:∀ d,o.dst=some d->d<N) {T:TypeId} {x y:Operand} (ho:o.op = .index T x y) (h:bu P kind D o st δ) :
  o.wp P a w (Aft W0 M0 N (st.app o.dst δ)) Q:=by
 unfold bu at h;rw[ho]at h;obtain⟨p,q,z,h1,h2,h3,h4,rfl⟩:=h;have e1:=ri (S.ev x) h1;have e2:=ri (S.ev y) h2;refine eX S hd h4 ?_;simp[execOp,ho,e1,e2,h3 w]
theorem vK (S:Sim W0 M0 N st G w a) (hd:∀ d,o.dst=some d->d<N) {x:Operand} {n:Nat} (ho:o.op = .extract x n) (h:bu P kind D o st δ) :
  o.wp P a w (Aft W0 M0 N (st.app o.dst δ)) Q:=by
 unfold bu at h;rw[ho]at h;obtain⟨xs,y,h1,h2,rfl⟩:=h;have hv:=S.ev x;rw[h1]at hv;obtain⟨ys,e,hr⟩:=hv;obtain⟨z,hz,hz2⟩:=hr.get h2;refine bL S hd (y:=z) ?_ hz2;have hz':ys[n]?=some z:=by simpa using hz
 simp[execOp,ho,e,Instr.extract,hz']
theorem un (S:Sim W0 M0 N st G w a) (hd:∀ d,o.dst=some d->d<N) {x:Operand} (ho:o.op = .nilCheck x) (h:bu P kind D o st δ) :
  o.wp P a w (Aft W0 M0 N (st.app o.dst δ)) Q:=by
 unfold bu at h;rw[ho]at h;obtain⟨h1,rfl⟩:=h;have hv:=S.ev x;refine bL S hd (y:=a.eval x) ?_ hv;split at h1
 ·rename_i t g off e;rw[e]at hv;have:=hv.2 h1.1 h1.2.1;simp[execOp,ho,this]
 ·rename_i cs e;rw[e]at hv;obtain⟨b,off,hy,_⟩:=hv;simp[execOp,ho,hy]
 ·exact h1.elim
end
section
variable {P:Program} {kind:FuncId->CK} {D:Option DI} {W0:cW} {M0:Nat->Prop} {N:Nat} {st:St} {G:Gh} {w:World} {a:Act} {o:Oper} {Q:Exit->Act->World->Prop} {δ:Dl}
theorem rF:∀(vs:List Value) (k off:Nat) (cur:Array Value),off+k+vs.length<=cur.size ->
  ((vs.zipIdx k).foldl (fun cs (x:Value×Nat)=>cs.setIfInBounds (off+x.2) x.1) cur)=(cur.toList.take (off+k)++vs++cur.toList.drop (off+k+vs.length)).toArray
 | [],k,off,cur,_=>by simp
 | v::vs,k,off,cur,h=>by
  simp only[List.zipIdx_cons,List.foldl_cons];rw[rF vs (k+1) off (cur.setIfInBounds (off+k) v) (by simp at h ⊢;omega)];congr 1;simp only[Array.toList_setIfInBounds,List.length_cons];simp only[List.length_cons]at h;have e:=list_seg_step cur.toList (off+k) v vs ar;simpa [Nat.add_assoc,Nat.add_comm 1]using e
theorem Ao {M:Nat->Prop} {pl:List (Nat×Nat)}:∀{l:List (Nat×List C)} {l':List (Nat×Value)} {cs cs':List C} {ys:Array Value},
  (l.length=l'.length/\∀(n:Nat) x y,l[n]?=some x->l'[n]?=some y->x.1=y.1/\aY w M x.2 y.2.cells.toList)->aY w M cs ys.toList->mT pl cs l=some cs' ->
  ∃ ys',Instr.fill (fun i=>pl[i]?) ys l'=some ys'/\aY w M cs' ys'.toList
 | [],[],cs,cs',ys,_,h,hf=>by
  simp only[mT,Option.some.injEq]at hf;subst hf;exact⟨ys,rfl,h⟩
 | (i,xs)::l,(i',v)::l',cs,cs',ys,hl,h,hf=>by
  obtain⟨hlen,hall⟩:=hl;obtain⟨e1,e2⟩:=hall 0 (i,xs) (i',v) au au;simp only at e1 e2;subst e1;simp only[mT]at hf;cases hp:pl[i]? with
  | none=>simp[hp]at hf
  | some p =>
   simp only[hp]at hf;split at hf
   ·rename_i hc;have hx:=e2.length;have hcs:=h.length;simp only[Array.length_toList]at hx hcs;have hrec:=Ao (l:=l) (l':=l') (cs:=cJ cs p.1 xs) (cs':=cs') (ys:=(ys.toList.take p.1++v.cells.toList++ys.toList.drop (p.1+v.cells.toList.length)).toArray) (pl:=pl)
     ⟨by simpa using hlen,fun n x y hx hy=>hall (n+1) x y (by simpa using hx) (by simpa using hy)⟩ (by simpa using jC h e2) hf
    obtain⟨ys',h1,h2⟩:=hrec;refine⟨ys',?_,h2⟩;simp only[Instr.fill,hp];rw[if_neg ar];rw[<-h1];congr 1;have:=rF v.cells.toList 0 p.1 ys ar;simp only[Nat.add_zero]at this;rw[<-this];rw[<-Array.foldl_toList,Array.toList_zipIdx]
   ·simp at hf
 | [],_::_,_,_,_,hl,_,_=>by simp at hl
 | _::_,[],_,_,_,hl,_,_=>by simp at hl
theorem zV {α β:Type} {f:α->Option β}:∀{l:List α} {l':List β},eF f l=some l'->l.length=l'.length/\∀(n:Nat) x y,l[n]?=some x->l'[n]?=some y->f x=some y
 | [],l',h=>by simp[eF]at h;subst h;simp
 | x::l,l',h=>by
  simp only[eF]at h;cases hx:f x with
  | none=>simp[hx]at h
  | some y =>
   cases hl:eF f l with
   | none=>simp[hx,hl]at h
   | some ys =>
    simp only[hx,hl,Option.some.injEq]at h;subst h;obtain⟨h1,h2⟩:=zV hl;refine⟨by simp[h1],fun n a b ha hb=>?_⟩;cases n with
    | zero=>simp at ha hb;subst ha;subst hb;exact hx
    | succ n=>exact h2 n a b (by simpa using ha) (by simpa using hb)
theorem wo (S:Sim W0 M0 N st G w a) {ps:Array (Nat×Operand)} {l:List (Nat×List C)} (h:st.partCells ps.toList=some l) :
  l.length=(ps.map fun(i,x)=>(i,a.eval x)).toList.length/\∀(n:Nat) x y,l[n]?=some x->(ps.map fun(i,x)=>(i,a.eval x)).toList[n]?=some y->x.1=y.1/\aY w (G.M M0) x.2 y.2.cells.toList:=by
 obtain⟨h1,h2⟩:=zV h;refine⟨by simp[<-h1],fun n x y hx hy=>?_⟩;simp only[Array.toList_map,List.getElem?_map,Option.map_eq_some_iff]at hy;obtain⟨p,hp,rfl⟩:=hy;have:=h2 n p x hp hx;simp only[Option.map_eq_some_iff]at this;obtain⟨iv,hiv,rfl⟩:=this;exact⟨rfl,(lh S (S.ev p.2) hiv).cells⟩
theorem F6 {fs:List Field} {pl:List (Nat×Nat)} (h:eF (fun(f:Nat×TypeId)=>(tinfo P f.2).map fun t=>(f.1,t.size)) (fs.map fun f=>(f.offset,f.type))=some pl) :
  fs.mapM (fun f=>(P.info? f.type).map fun i=>(f.offset,i.size))=some pl:=by
 induction fs generalizing pl with
 | nil=>simp[eF]at h;subst h;rfl
 | cons f fs ih =>
  simp only[List.map_cons,eF]at h;cases hf:tinfo P f.type with
  | none=>simp[hf]at h
  | some ti =>
   obtain⟨i,d,hi,hd,rfl⟩:=bH hf;cases hr:eF (fun(f:Nat×TypeId)=>(tinfo P f.2).map fun t=>(f.1,t.size)) (fs.map fun f=>(f.offset,f.type))with
   | none=>simp[hf,hr]at h
   | some l =>
    simp[hf,hr]at h;subst h;simp[List.mapM_cons,hi,ih hr]
theorem AF (S:Sim W0 M0 N st G w a) (hd:∀ d,o.dst=some d->d<N) {T:TypeId} {ps:Array (Nat×Operand)} (ho:o.op = .build T ps) (h:bu P kind D o st δ) :
  o.wp P a w (Aft W0 M0 N (st.app o.dst δ)) Q:=by
 unfold bu at h;rw[ho]at h;obtain⟨ti,z,pl,l,cs,h1,h2,h3,h4,h5,h6,_,h8,rfl⟩:=h;obtain⟨i,d,hi,hds,rfl⟩:=bH h1;dsimp only at h2 h3 h4 h5;obtain⟨zv,hz,hz2⟩:=Option.bind_eq_some_iff.1 h2;unfold rV at hz2;split at hz2
 ·rename_i hall;cases hz2;have hzr:aY w (G.M M0) (zv.cells.toList.map fK) zv.cells.toList:=fo fun x hx=>List.all_eq_true.1 hall x hx;have hp:=wo S h6;obtain⟨ys',hf,hr⟩:=Ao hp hzr h8;refine bL S hd (y := .agg ys') ?_ ⟨ys',rfl,hr⟩;have hrun:(Instr.build T (ps.map fun(i,x)=>(i,a.eval x))).run P w = .ok (.agg ys') w:=by
   cases d with
   | struct fs =>
    refine run_build w T _ _ ?_;simp only[Program.built,hi,hds,hz];rw[F6 h5];simp only[List.getElem?_toArray];exact hf
   | array n e =>
    simp only[CS]at h4;obtain⟨h4,te,hte⟩:=h4;obtain⟨ie,de,hie,_,_⟩:=bH hte;have:ps = #[]:=by simpa using h4
    subst this;simp[Instr.fill]at hf;subst hf;simp[Instr.build,run_underlying hds,zeroValue,kS hi,hz,Instr.fill,dU hie]
   | _=>simp[Ax]at h3
  simp[execOp,ho,hrun]
 ·simp at hz2
end
theorem rZ {α:Type} {sz:Nat} {xs:List α}:∀{rs:List (List α)} {i:Nat},(∀ r∈rs,r.length=sz)->xs.length=sz->i<rs.length ->
  (rs.set i xs).flatten=rs.flatten.take (i*sz)++xs++rs.flatten.drop (i*sz+sz)
 | [],i,_,_,h=>by simp at h
 | r::rs,0,h,hx,_=>by
  have:=h r au;simp[<-this]
 | r::rs,i+1,h,hx,hi=>by
  have hr:=h r au;have ih:=rZ (rs:=rs) (i:=i) (fun x hx=>h x (List.mem_cons_of_mem _ hx)) hx (by simpa using hi);have e1:(i+1)*sz=r.length+i*sz:=by rw[Nat.add_mul,hr];omega
  have e2:(i+1)*sz+sz=r.length+(i*sz+sz):=by rw[e1];omega
  simp only[List.set_cons_succ,List.flatten_cons,ih];rw[e1,e2]at *
  simp only[<-Nat.add_assoc];rw[List.take_append,List.drop_append];simp[List.take_of_length_le,List.drop_of_length_le,Nat.add_sub_cancel_left,Nat.add_assoc]
theorem lM {d:TypeDesc} {e:TypeId} (h:qp d=some e):d = .slice e:=by
 cases d<;>simp[qp]at h;rw[h]
theorem Ms {d:TypeDesc} {x:Nat×TypeId} (h:CS d=some x):d = .array x.1 x.2:=by
 cases d<;>simp[CS]at h;rw[<-h]
section
variable {P:Program} {kind:FuncId->CK} {D:Option DI} {W0:cW} {M0:Nat->Prop} {N:Nat} {st:St} {G:Gh} {w:World} {a:Act} {o:Oper} {Q:Exit->Act->World->Prop} {δ:Dl}
theorem wJ {M:Nat->Prop} {sz:Nat}:∀{l:List (Nat×List C)} {l':List (Nat×Value)} {rs:List (List C)} {ys:Array Value},
  (l.length=l'.length/\∀(n:Nat) x y,l[n]?=some x->l'[n]?=some y->x.1=y.1/\aY w M x.2 y.2.cells.toList)->(∀ r∈rs,r.length=sz)->aY w M rs.flatten ys.toList ->
  (∀ p∈l,p.1<rs.length/\p.2.length=sz) ->
  ∃ ys',Instr.fill (fun i=>some (i*sz,sz)) ys l'=some ys'/\aY w M (l.foldl (fun rs p=>rs.set p.1 p.2) rs).flatten ys'.toList/\(∀ r∈l.foldl (fun rs p=>rs.set p.1 p.2) rs,r.length=sz) /\
   (l.foldl (fun rs p=>rs.set p.1 p.2) rs).length=rs.length
 | [],[],rs,ys,_,hr,h,_=>⟨ys,rfl,h,hr,rfl⟩
 | (i,xs)::l,(i',v)::l',rs,ys,hl,hr,h,hp=>by
  obtain⟨hlen,hall⟩:=hl;obtain⟨e1,e2⟩:=hall 0 (i,xs) (i',v) au au;simp only at e1 e2;subst e1;obtain⟨p1,p2⟩:=hp (i,xs) au;simp only at p1 p2;have hx:=e2.length;have hys:=h.length;rw[cy hr]at hys;simp only[Array.length_toList]at hx hys;have hle:i*sz+sz<=ys.size:=by
   have:(i+1)*sz<=rs.length*sz:=Nat.mul_le_mul_right _ p1;rw[Nat.add_mul]at this;omega
  have hr':∀ r∈rs.set i xs,r.length=sz:=fun r hr0=>by
   rcases List.mem_or_eq_of_mem_set hr0 with h'|h'
   ·exact hr r h'
   ·rw[h'];exact p2
  have hsp:aY w M (rs.set i xs).flatten (ys.toList.take (i*sz)++v.cells.toList++ys.toList.drop (i*sz+v.cells.toList.length)):=by
   rw[rZ hr p2 p1];have:=jC (off:=i*sz) h e2;unfold cJ at this;rw[p2]at this;exact this
  obtain⟨ys',h1,h2,h3,h4⟩:=wJ (l:=l) (l':=l') (rs:=rs.set i xs) (ys:=(ys.toList.take (i*sz)++v.cells.toList++ys.toList.drop (i*sz+v.cells.toList.length)).toArray) (sz:=sz)
   ⟨by simpa using hlen,fun n x y hx hy=>hall (n+1) x y (by simpa using hx) (by simpa using hy)⟩ hr' (by simpa using hsp) (fun p hp0=>by simpa using hp p (List.mem_cons_of_mem _ hp0))
  refine⟨ys',?_,h2,h3,by simpa using h4⟩;simp only[Instr.fill];rw[if_neg ar];rw[<-h1];congr 1;have:=rF v.cells.toList 0 (i*sz) ys ar;simp only[Nat.add_zero]at this;rw[<-this];rw[<-Array.foldl_toList,Array.toList_zipIdx]
 | [],_::_,_,_,hl,_,_,_=>by simp at hl
 | _::_,[],_,_,hl,_,_,_=>by simp at hl
theorem rU (z:Array Value):∀ n,(List.range (n*z.size)).map (fun i=>z[i % z.size]!)=(List.replicate n z.toList).flatten
 | 0=>by simp
 | n+1=>by
  rw[Nat.add_mul,Nat.one_mul,List.range_add,List.map_append,rU z n,List.replicate_succ',List.flatten_append];simp only[List.flatten_cons,List.flatten_nil,List.append_nil,List.map_map];congr 1;apply List.ext_getElem?;intro k;by_cases hk:k<z.size
  ·simp[hk,Nat.mul_add_mod_self_right,Nat.mod_eq_of_lt hk]
  ·simp[hk]
theorem tC (z:Array Value) (n:Nat):(Array.range (n*z.size)).map (fun i=>z[i % z.size]!)=(List.replicate n z.toList).flatten.toArray:=by
 apply Array.ext';simp only[Array.toList_map,Array.toList_range];exact rU z n
theorem jk {M:Nat->Prop} {z:List C} {zs:List Value} (h:aY w M z zs):∀ n,aY w M (List.replicate n z).flatten (List.replicate n zs).flatten
 | 0=>trivial
 | n+1=>by simpa [List.replicate_succ]using h.append (jk h n)
theorem IC (S:Sim W0 M0 N st G w a) {b:Nat} (h:w.heap.size<=b):¬ G.M M0 b:=by
 rintro (h'|h')
 ·have:=S.m0 b h';have:=S.le;omega
 ·have:=(S.own b h').2;omega
theorem Ab {M:Nat->Prop} (x:Obj):bE w M (w.alloc x) M:=bE.of_below ((bq.refl _ _).alloc (ay _) _)
theorem HX {M:Nat->Prop} {T:TypeId} {ys:Array Value} {rs:List (List C)} {sz:Nat} (hr:∀ r∈rs,r.length=sz) (h:aY w M rs.flatten (ys.toList.take (rs.length*sz))) :
  aS (w.alloc (.cells ys T)) M rs w.heap.size 0 sz:=by
 refine aS.of_flat hr (aY.mono (Ab _) _ _ h) fun j hj=>?_;rw[bR (cZ _ _)];simp at hj;rw[List.getElem?_take_of_lt aw];simp
theorem rI (S:Sim W0 M0 N st G w a) (hd:∀ d,o.dst=some d->d<N) {T:TypeId} {n:Nat} {ps:Array (Nat×Operand)} (ho:o.op = .buildSlice T n ps) (h:bu P kind D o st δ) :
  o.wp P a w (Aft W0 M0 N (st.app o.dst δ)) Q:=by
 unfold bu at h;rw[ho]at h;obtain⟨ti,z,l,h1,h2,h3,h4,h5,h6,_,h8,rfl⟩:=h;obtain⟨e,he,hte⟩:=Option.bind_eq_some_iff.1 h1;obtain⟨tT,hT,hTe⟩:=Option.bind_eq_some_iff.1 he;obtain⟨iT,dT,_,hdT,rfl⟩:=bH hT;obtain⟨i,d,hi,hds,rfl⟩:=bH hte;dsimp only at h2 h3 h4 h5 h8 hTe;obtain rfl:=lM hTe;obtain⟨zv,hz,hz2⟩:=Option.bind_eq_some_iff.1 h2;unfold rV at hz2;split at hz2
 case isFalse=>simp at hz2
 rename_i hall;cases hz2;have hzs:zv.cells.size=i.size:=by simpa using h3
 have hzr:aY w (G.M M0) (zv.cells.toList.map fK) zv.cells.toList:=fo fun x hx=>List.all_eq_true.1 hall x hx;have hp:=wo S h6;have h0:=jk hzr n;obtain⟨ys',f1,f2,f3,f4⟩:=wJ (rs:=List.replicate n (zv.cells.toList.map fK)) (ys:=(List.replicate n zv.cells.toList).flatten.toArray) (sz:=i.size) hp
  (fun r hr=>by rw[List.eq_of_mem_replicate hr];exact h3) (by simpa using h0) (fun p hp=>by simpa using h8 p hp)
 generalize hrs:l.foldl (fun rs p=>rs.set p.1 p.2) (List.replicate n (zv.cells.toList.map fK))=rs at *
 have f4':rs.length=n:=by simpa using f4
 have f2l:=f2.length;rw[cy f3]at f2l;refine bF (y := .slice (some ⟨w.heap.size,0,none⟩) n n) (w':=w.alloc (.cells ys' e)) ?_ ?_
 ·have hrun:(Instr.buildSlice T n (ps.map fun(i,x)=>(i,a.eval x))).run P w = .ok (.slice (some ⟨w.heap.size,0,none⟩) n n) (w.alloc (.cells ys' e)):=by
   by_cases hn:n=0
   ·subst hn;have:l=[]:=by
     cases l with
     | nil=>rfl
     | cons p l=>have:=(h8 p au).1;omega
    subst this;have hl0:(ps.map fun(i,x)=>(i,a.eval x)).toList=[]:=by
     have:=hp.1;exact List.eq_nil_of_length_eq_zero (by simpa using this.symm)
    have hl1:(ps.map fun(i,x)=>(i,a.eval x)) = #[]:=by simpa using hl0
    rw[hl1]at f1 ⊢;simp only[List.replicate_zero,List.flatten_nil,Instr.fill,Option.some.injEq]at f1;subst f1;simp[Instr.buildSlice,run_underlying hdT,dU hi,newRow,Instr.fill,show Array.range 0 = #[]from rfl]
   ·have hpos:¬ n*i.size=0:=by
     rw[Nat.mul_eq_zero];omega
    have hsmall:¬ n*i.size>2 ^ 24:=aw;have f1':Instr.fill (fun j=>some (j*i.size,i.size)) ((Array.range (n*i.size)).map (zv.cells[· % zv.cells.size]!)) (ps.map fun(i,x)=>(i,a.eval x)).toList=some ys':=by
     rw[<-hzs,tC,hzs];exact f1
    generalize (ps.map fun(i,x)=>(i,a.eval x))=pv at f1' ⊢;simp[Instr.buildSlice,run_underlying hdT,sizeOf,typeInfo,zeroValue,hi,hz,hsmall,hpos,f1',newRow]
  simp[execOp,ho,hrun]
 ·refine⟨G,?_⟩;rw[ym];refine S.put hd ((bq.refl _ _).alloc (ay _) _) fun _=>?_;refine⟨_,_,rfl,f4'.symm,.inr ⟨w.heap.size,0,i.size,rfl,au,IC S (ay _),HX f3 ?_⟩⟩;rw[f2l,Array.length_toList];rw[List.take_of_length_le au];exact f2
theorem Ir {T:TypeId} {ti:TI} {cs:List C} {iv:IV} {ys:Array Value} {off:Nat} {M:Nat->Prop} (hti:tinfo P T=some ti) (hl:ldv ti (cs.drop off)=some iv)
  (hc:aY w M cs ys.toList):∃ y,(part T ys off).run P w = .ok y w/\jc w M iv y:=by
 obtain⟨i,d,hi,hd,rfl⟩:=bH hti;have hlen:=hc.length;unfold ldv at hl;dsimp only at hl;simp only[part,Sem.run_bind,wA hd,Result.andThen_ok];cases hagg:Ax d with
 | true =>
  rw[hagg]at hl;simp only[if_true]at hl;split at hl
  ·rename_i hle;cases hl;refine⟨.agg (ys.extract off (off+i.size)),by simp[dU hi],⟨_,rfl,?_⟩⟩;have:=(hc.drop off).take i.size;rw[Array.toList_extract,List.extract_eq_take_drop,Nat.add_sub_cancel_left];exact this
  ·simp at hl
 | false =>
  rw[hagg]at hl;simp only[Bool.false_eq_true,if_false]at hl;split at hl
  ·rename_i c cs' hcs;cases hl;have h1:=hc.drop off;rw[hcs]at h1;cases hy:ys.toList.drop off with
   | nil=>rw[hy]at h1;exact h1.elim
   | cons y ys' =>
    rw[hy]at h1;have:ys[off]?=some y:=by
     have:=congrArg (fun l=>l[0]?) hy;simp only[List.getElem?_drop,Nat.add_zero,List.getElem?_cons_zero,Array.getElem?_toList]at this;exact this
    exact⟨y,by simp[this],h1.1⟩
  ·simp at hl
theorem Ap (S:Sim W0 M0 N st G w a) (hd:∀ d,o.dst=some d->d<N) {T:TypeId} {x:Operand} {f:Nat} (ho:o.op = .field T x f) (h:bu P kind D o st δ) :
  o.wp P a w (Aft W0 M0 N (st.app o.dst δ)) Q:=by
 unfold bu at h;rw[ho]at h;obtain⟨ti,tf,fd,cs,iv,h1,h2,h3,h4,h5,rfl⟩:=h;obtain⟨i,d,hi,hds,rfl⟩:=bH h1;dsimp only at h2;have hv:=S.ev x;rw[h4]at hv;obtain⟨ys,hy,hr⟩:=hv;obtain⟨y,hrun,hrep⟩:=Ir h3 h5 hr;refine bL S hd (y:=y) ?_ hrep;cases d with
 | struct fs =>
  simp only[u6,List.getElem?_map,Option.map_eq_some_iff]at h2;obtain⟨fl,hfl,rfl⟩:=h2;have hfl':fs[f]?=some fl:=by simpa using hfl
  simp[execOp,ho,hy,Instr.field,run_underlying hds,hfl',asAgg,hrun]
 | _=>simp[u6]at h2
theorem sS (S:Sim W0 M0 N st G w a) (hd:∀ d,o.dst=some d->d<N) {T:TypeId} {x:Operand} {f:Nat} (ho:o.op = .fieldAddr T x f) (h:bu P kind D o st δ) :
  o.wp P a w (Aft W0 M0 N (st.app o.dst δ)) Q:=by
 unfold bu at h;rw[ho]at h;obtain⟨ti,tf,fd,h1,h2,h3,h4,h5⟩:=h;obtain⟨i,d,hi,hds,rfl⟩:=bH h1;obtain⟨i2,d2,hi2,hds2,rfl⟩:=bH h3;dsimp only at h2 h4;cases d with
 | struct fs =>
  simp only[u6,List.getElem?_map,Option.map_eq_some_iff]at h2;obtain⟨fl,hfl,rfl⟩:=h2;have hfl':fs[f]?=some fl:=by simpa using hfl
  dsimp only at *
  have hrun:∀ b off,a.eval x = .pointer (some ⟨b,off,none⟩)->(execOp a.eval o).run P w = .ok (.value (.pointer (some ⟨b,off+fl.offset,none⟩))) w:=by
   intro b off e;simp[execOp,ho,e,Instr.fieldAt,run_underlying hds,hfl',Instr.sureAddr,fieldPlace,dU hi2,h4,pr]
  have hv:=S.ev x;split at h5
  ·rename_i cs e;obtain⟨h5,rfl⟩:=h5;rw[e]at hv;obtain⟨b,off,e2,e3,e4,e5⟩:=hv;exact bL S hd (hrun b off e2) ⟨b,_,rfl,e3,e4,e5.drop _ h5⟩
  ·rename_i t g off e;obtain⟨h5,h6,_,rfl⟩:=h5;rw[e]at hv;have e2:=hv.2 h5 h6;exact bL S hd (hrun _ off e2) ⟨hv.1,fun _ _=>rfl⟩
  ·rename_i t g i' off e;obtain⟨h5,h6,_,rfl⟩:=h5;rw[e]at hv;obtain⟨b,o',e1,e2⟩:=hv.2 h5 h6;exact bL S hd (hrun _ _ e2) ⟨hv.1,fun _ _=>⟨b,o',e1,by simp[Nat.add_assoc]⟩⟩
  ·exact h5.elim
 | _=>simp[u6]at h2
theorem kH {v:AV} {y:Value} {i:Int} (h:eH w (G.M M0) st G v y) (hi:lH v i):∃ k,y = .int k i:=by
 obtain⟨k,rfl⟩:=hi;exact⟨k,jW h⟩
theorem sO (S:Sim W0 M0 N st G w a) (hd:∀ d,o.dst=some d->d<N) {T:TypeId} {x y:Operand} (ho:o.op = .indexAddr T x y) (h:bu P kind D o st δ) :
  o.wp P a w (Aft W0 M0 N (st.app o.dst δ)) Q:=by
 unfold bu at h;rw[ho]at h;obtain⟨ti,i,h1,h2,h3,h5⟩:=h;obtain⟨iT,d,hi,hds,rfl⟩:=bH h1;obtain⟨k,hk⟩:=kH (S.ev y) h2;have hv:=S.ev x;have hslice:∀(e:TypeId) (te:TI) (b off len cap:Nat),qp d=some e->tinfo P e=some te->a.eval x = .slice (some ⟨b,off,none⟩) len cap->i<len ->
   (execOp a.eval o).run P w = .ok (.value (.pointer (some ⟨b,off+i.toNat*te.size,none⟩))) w:=by
  intro e te b off len cap he hte hx hlt;obtain⟨ie,de,hie,_,rfl⟩:=bH hte;obtain rfl:=lM he;simp[execOp,ho,hk,hx,Instr.indexAt,asIntOf,run_underlying hds,h3,hlt,dU hie,pr]
 have harr:∀(n:Nat) (e:TypeId) (te:TI) (b off:Nat),CS d=some (n,e)->tinfo P e=some te->a.eval x = .pointer (some ⟨b,off,none⟩)->i<n ->
   (execOp a.eval o).run P w = .ok (.value (.pointer (some ⟨b,off+i.toNat*te.size,none⟩))) w:=by
  intro n e te b off he hte hx hlt;obtain⟨ie,de,hie,_,rfl⟩:=bH hte;obtain rfl:=Ms he;simp[execOp,ho,hk,hx,Instr.indexAt,asIntOf,run_underlying hds,Instr.sureAddr,h3,hlt,dU hie,pr]
 have hlst:∀(rs:List (List C)) (r:List C) (te:TI) (e:TypeId) (b off len cap sz:Nat),qp d=some e->tinfo P e=some te->rs[i.toNat]?=some r->r.length=te.size->len=rs.length ->
   a.eval x = .slice (some ⟨b,off,none⟩) len cap->b<w.heap.size->¬ G.M M0 b->aS w (G.M M0) rs b off sz->o.wp P a w (Aft W0 M0 N (st.app o.dst { v := .ip r })) Q:=by
  intro rs r te e b off len cap sz he hte hr hrl hlen hx hb hm hrows;obtain⟨h6,h7⟩:=hrows.get hr;have:i.toNat<rs.length:=by
   rcases Nat.lt_or_ge i.toNat rs.length with h'|h'
   ·exact h'
   ·rw[List.getElem?_eq_none h']at hr;simp at hr
  exact bL S hd (hslice e te b off len cap he hte hx aw) ⟨b,_,rfl,hb,hm,by rw[<-hrl,h6];exact h7⟩
 split at h5
 ·rename_i rs e;obtain⟨te,r,h6,h7,h8,rfl⟩:=h5;obtain⟨el,he,hte⟩:=Option.bind_eq_some_iff.1 h6;rw[e]at hv;have hv:cw w (G.M M0) (.lst rs) (a.eval x):=hv;simp only[cw]at hv;obtain⟨p,len,cap,e2,e3,e4,e5⟩:=hv;rcases e5 with e5|⟨b,off,sz,e6,e7,e8,e9⟩
  ·rw[e5]at h7;simp at h7
  ·exact hlst rs r te el b off len cap sz he hte h7 h8 e3 (by rw[e2,e6]) e7 e8 e9
 ·rename_i rs e;obtain⟨te,r,h6,h7,h8,rfl⟩:=h5;obtain⟨el,he,hte⟩:=Option.bind_eq_some_iff.1 h6;rw[e]at hv;obtain⟨p,len,e2,e3,e5⟩:=hv;rcases e5 with e5|⟨b,off,sz,e6,e7,e8,e9⟩
  ·rw[e5]at h7;simp at h7
  ·exact hlst rs r te el b off len len sz he hte h7 h8 e3 (by rw[e2,e6]) e7 e8 e9
 ·rename_i t g len e;obtain⟨te,h6,h7,h8,_,h9,h10,rfl⟩:=h5;obtain⟨el,he,hte⟩:=Option.bind_eq_some_iff.1 h6;rw[e]at hv;obtain⟨hle,hx⟩:=hv.2 h7 h8;have hne:(st.e t).rs≠[]:=by intro e0;rw[e0]at hle;simp at hle;omega
  obtain⟨b,o',e1,e2,_,e4⟩:=S.rowAt aw hne;rw[e1]at hx;exact bL S hd (hslice el te b o' len _ he hte hx aw) ⟨hv.1,fun _ _=>⟨b,o',e1,by rw[h10];rfl⟩⟩
 ·rename_i t g off e;obtain⟨n,el,te,h6,h7,h8,h9,h10,_,rfl⟩:=h5;rw[e]at hv;have e2:=hv.2 h9 h10;exact bL S hd (harr n el te _ off h6 h7 e2 h8) ⟨hv.1,fun _ _=>rfl⟩
 ·rename_i cs e;obtain⟨n,el,te,h6,h7,h8,h9,rfl⟩:=h5;rw[e]at hv;obtain⟨b,off,e2,e3,e4,e5⟩:=hv;exact bL S hd (harr n el te b off h6 h7 e2 h8) ⟨b,_,rfl,e3,e4,e5.drop _ h9⟩
 ·exact h5.elim
end
section
variable {P:Program} {kind:FuncId->CK} {D:Option DI} {W0:cW} {M0:Nat->Prop} {N:Nat} {st:St} {G:Gh} {w:World} {a:Act} {o:Oper} {Q:Exit->Act->World->Prop} {δ:Dl}
theorem nm {k:IntKind} {n:Nat} {y:Nat} {code:BoundsCode} (h:n<=y) (w:World):(Instr.sliceBound (.int k (n:Int)) y code).run P w = .ok n w:=by
 have h':(n:Int)<=(y:Int):=aw;simp[Instr.sliceBound,asIntOf,h']
theorem zm (S:Sim W0 M0 N st G w a) (hd:∀ d,o.dst=some d->d<N) {T:TypeId} {x:Operand} {lo hi mx:Option Operand} (ho:o.op = .slice T x lo hi mx) (h:bu P kind D o st δ) :
  o.wp P a w (Aft W0 M0 N (st.app o.dst δ)) Q:=by
 unfold bu at h;rw[ho]at h;obtain⟨ti,e,n,l,hh,h1,h2,h3,_,h4,h5,h6,h7,h8⟩:=h;obtain⟨iT,dT,_,hdT,rfl⟩:=bH h1;obtain rfl:=lM h2;have hv:=S.ev x;obtain⟨p,cap,hx,hc⟩:=D4 S hv h3;have hlo:(lo=none/\l=0)\/∃ y k,lo=some y/\a.eval y = .int k (l:Int):=by
  cases lo with
  | none=>exact .inl ⟨rfl,h4⟩
  | some y=>obtain⟨k,hk⟩:=kH (S.ev y) h4;exact .inr ⟨y,k,rfl,hk⟩
 have hhi:(hi=none/\hh=n)\/∃ y k,hi=some y/\a.eval y = .int k (hh:Int):=by
  cases hi with
  | none=>exact .inl ⟨rfl,h5⟩
  | some y=>obtain⟨k,hk⟩:=kH (S.ev y) h5;exact .inr ⟨y,k,rfl,hk⟩
 have hie:∀ te,tinfo P e=some te->∃ ie,P.info? e=some ie/\te.size=ie.size:=fun te hte=>by
  obtain⟨ie,de,hie,_,rfl⟩:=bH hte;exact⟨ie,hie,rfl⟩
 have hrun:∀(m:Nat),(mx=none/\m=cap\/∃ y k,mx=some y/\hi≠none/\a.eval y = .int k (hh:Int)/\m=hh)->hh<=m->(∃ i,P.info? e=some i /\
   (execOp a.eval o).run P w = .ok (.value (.slice (if m=l then p else p.map (·.add (l*i.size))) (hh-l) (m-l))) w)\/P.info? e=none:=by
  intro m hm hle;cases hi':P.info? e with
  | none=>exact .inr rfl
  | some i =>
   refine .inl ⟨i,rfl,?_⟩;have hb:(Instr.sliceBounds true n cap (lo.map a.eval) (hi.map a.eval) (mx.map a.eval)).run P w = .ok (l,hh,m) w:=by
    have hcap:hh<=cap:=aw;rcases hm with⟨rfl,rfl⟩|⟨y,k,rfl,hne,hy,rfl⟩
    ·rcases hhi with⟨rfl,rfl⟩|⟨y,k,rfl,hy⟩<;>rcases hlo with⟨rfl,rfl⟩|⟨z,k',rfl,hz⟩ <;>
      simp[Instr.sliceBounds, *,nm]
    ·rcases hhi with⟨rfl,_⟩|⟨y',k2,rfl,hy'⟩
     ·exact absurd rfl hne
     ·rcases hlo with⟨rfl,rfl⟩|⟨z,k',rfl,hz⟩<;>simp[Instr.sliceBounds, *,nm]
   simp only[execOp,ho,hx,Instr.sliceAt,Instr.slice,Sem.run_bind,run_underlying hdT,Result.andThen_ok,hb,dU hi',Sem.run_pure]
 have hmax:∀(rs:List (List C)) (te:TI),tinfo P e=some te->(∀ r∈rs,r.length=te.size)->rs.length=n->(rs=[]\/∃ b off sz,p=some ⟨b,off,none⟩/\b<w.heap.size/\¬ G.M M0 b/\aS w (G.M M0) rs b off sz) ->
   ∀(m:Nat) (i:TypeInfo),P.info? e=some i->hh<=m->((rs.take hh).drop l=[]\/∃ b off sz,(if m=l then p else p.map (·.add (l*i.size)))=some ⟨b,off,none⟩/\b<w.heap.size/\¬ G.M M0 b/\aS w (G.M M0) ((rs.take hh).drop l) b off sz):=by
  intro rs te hte hall hrl hrs m i hi' hle;by_cases hemp:(rs.take hh).drop l=[]
  ·exact .inl hemp
  ·right;obtain⟨ie,hie1,hie2⟩:=hie te hte;obtain rfl:i=ie:=by rw[hi']at hie1;exact Option.some.inj hie1
   have hlt:l<hh:=by
    rcases Nat.lt_or_ge l hh with h'|h'
    ·exact h'
    ·exact absurd (List.drop_of_length_le ar) hemp
   rcases hrs with hrs|⟨b,off,sz,e1,e2,e3,e4⟩
   ·rw[hrs]at hemp;simp at hemp
   ·have hsz:sz=i.size:=by
     have h0:0<rs.length:=aw;have:=(e4.get (aD h0)).1;rw[<-this,hall _ (List.getElem_mem h0),hie2]
    subst hsz;rw[if_neg aw,e1];exact⟨b,_,i.size,by simp[pr],e2,e3,(e4.take hh).drop l⟩
 have hlst:∀ rs,(st.ev x = .i (.c (.lst rs))\/st.ev x = .fl rs)->rs.length=n/\(rs=[]\/∃ b off sz,p=some ⟨b,off,none⟩/\b<w.heap.size/\¬ G.M M0 b/\aS w (G.M M0) rs b off sz):=by
  rintro rs (e0|e0)
  ·rw[e0]at hv h3;have hv:cw w (G.M M0) (.lst rs) (a.eval x):=hv;simp only[cw]at hv;obtain⟨p',len',cap',e2,e3,e4,e5⟩:=hv;rw[hx]at e2;simp at e2;obtain⟨rfl,rfl,rfl⟩:=e2;exact⟨e3.symm,e5⟩
  ·rw[e0]at hv h3;obtain⟨p',len',e2,e3,e5⟩:=hv;rw[hx]at e2;simp at e2;obtain⟨rfl,rfl,rfl⟩:=e2;exact⟨e3.symm,e5⟩
 cases mx with
 | some y =>
  obtain⟨hno,h9,rs,te,h10,h11,h12,rfl⟩:=h8;obtain⟨k,hk⟩:=kH (S.ev y) h9;obtain⟨hrl,hrs⟩:=hlst rs (.inl h11);obtain⟨ie,hie1,hie2⟩:=hie te h10;obtain⟨i,hi',hr⟩:=(hrun hh (.inr ⟨y,k,rfl,hno,hk,rfl⟩) (ay _)).resolve_right (by rw[hie1];simp);refine bL S hd hr ⟨_,_,rfl,ar,?_⟩;exact hmax rs te h10 h12 hrl hrs hh i hi' (ay _)
 | none =>
  dsimp only at h8;split at h8
  ·rename_i rs e0;obtain⟨⟨te,h9,h10⟩,rfl⟩:=h8;obtain⟨hrl,hrs⟩:=hlst rs (.inl e0);obtain⟨ie,hie1,hie2⟩:=hie te h9;obtain⟨i,hi',hr⟩:=(hrun cap (.inl ⟨rfl,rfl⟩) aw).resolve_right (by rw[hie1];simp);refine bL S hd hr ?_;show cw _ _ _ _;simp only[cw];exact⟨_,_,_,rfl,ar,aw,hmax rs te h9 h10 hrl hrs cap i hi' aw⟩
  ·rename_i rs e0;obtain⟨⟨te,h9,h10⟩,rfl⟩:=h8;obtain⟨hrl,hrs⟩:=hlst rs (.inr e0);obtain⟨ie,hie1,hie2⟩:=hie te h9;obtain⟨i,hi',hr⟩:=(hrun cap (.inl ⟨rfl,rfl⟩) aw).resolve_right (by rw[hie1];simp);refine bL S hd hr ?_;show cw _ _ _ _;simp only[cw];exact⟨_,_,_,rfl,ar,aw,hmax rs te h9 h10 hrl hrs cap i hi' aw⟩
  ·rename_i t g len e0;obtain⟨te,h9,h8⟩:=h8;obtain⟨ie,hie1,hie2⟩:=hie te h9;rw[e0]at hv h3;simp only[St.len]at h3;cases hcc:(Nat.blt 0 g && Nat.beq (st.e t).gen g)with
   | false=>simp[hcc]at h3
   | true =>
    simp only[hcc,cond_true,Option.some.injEq]at h3;subst h3;obtain⟨hg,hg0⟩:=rowcond hcc;obtain⟨hle,hx2⟩:=hv.2 hg hg0;rw[hx2]at hx;simp at hx;obtain⟨rfl,rfl⟩:=hx;rcases h8 with⟨rfl,rfl⟩|⟨hl0,hlh,rfl⟩
    ·obtain⟨i,hi',hr⟩:=(hrun _ (.inl ⟨rfl,rfl⟩) aw).resolve_right (by rw[hie1];simp);refine bL S hd hr ⟨hv.1,fun _ _=>⟨aw,?_⟩⟩;simp only[Nat.zero_mul,Nat.sub_zero];congr 1;split
     ·rfl
     ·cases qx (G.E t)<;>simp[Addr.add]
    ·obtain⟨i,hi',hr⟩:=(hrun _ (.inl ⟨rfl,rfl⟩) aw).resolve_right (by rw[hie1];simp);obtain rfl:i=ie:=by rw[hi']at hie1;exact Option.some.inj hie1
     refine bL S hd hr ⟨hv.1,fun _ _=>⟨aw,?_⟩⟩;obtain⟨f1,-⟩:=S.en t aw;rcases f1 with f1|⟨b,off,e1,-⟩
     ·rw[f1]at hle;simp at hle;omega
     ·refine⟨b,off,G.cap t-l,e1,?_⟩;rw[if_neg aw];simp only[qx,e1,Option.map_some,pr,hie2]
  ·exact h8.elim
end
section
variable {P:Program} {kind:FuncId->CK} {D:Option DI} {W0:cW} {M0:Nat->Prop} {N:Nat} {st:St} {G:Gh} {w:World} {a:Act} {o:Oper} {Q:Exit->Act->World->Prop} {δ:Dl}
theorem gD {T:TypeId} {te:TI} (h:fE P T=some te):∃ e ie de,P.underlying T=some (.slice e)/\P.info? e=some ie/\tinfo P e=some te /\
  te={ agg:=Ax de,size:=ie.size,bytes:=ie.bytes,zero:=ie.zero.bind rV,elem:=qp de,arr:=CS de,flds:=u6 de }:=by
 obtain⟨e,he,hte⟩:=Option.bind_eq_some_iff.1 h;obtain⟨tT,hT,hTe⟩:=Option.bind_eq_some_iff.1 he;obtain⟨iT,dT,_,hdT,rfl⟩:=bH hT;obtain rfl:=lM hTe;obtain⟨ie,de,h1,_,h2⟩:=bH hte;exact⟨e,ie,de,hdT,h1,hte,h2⟩
theorem oW {z:Option Value} {cs:List C} (h:z.bind rV=some cs):∃ v,z=some v/\cs=v.cells.toList.map fK/\∀(w:World) M,aY w M cs v.cells.toList:=by
 obtain⟨zv,hz,hz2⟩:=Option.bind_eq_some_iff.1 h;unfold rV at hz2;split at hz2
 ·rename_i hall;cases hz2;exact⟨zv,hz,rfl,fun w M=>fo fun x hx=>List.all_eq_true.1 hall x hx⟩
 ·simp at hz2
def Gh.row (G:Gh) (d B cap:Nat):Gh:={ G with E:=upd G.E d (some ⟨B,0,none⟩),cap:=upd G.cap d cap,own:=upd G.own B (some (.e d)) }
theorem Sim.newRow (S:Sim W0 M0 N st G w a) {w':World} {d B cap len:Nat} {n:EN} {ys:Array Value} {T:TypeId} {kill:Option Nat} (hd:d<N) (hlen:len<=n.rs.length) (hb:bq w.heap.size w w')
  (hgen:n.gen=(st.e d).gen+1) (hB:w.heap.size<=B) (hB':w'.heap[B]?=some (.cells ys T (0,0))) (hys:ys.size=cap*n.sz) (hcap:n.rs.length<=cap)
  (hm:n.m=true) (hrows:aS w' (fun x=>G.M M0 x\/x=B) n.rs B 0 n.sz) :
  Sim W0 M0 N (st.app (some d) { v := .sl d ((st.e d).gen+1) len,ne:=some n,kill:=kill }) (G.row d B cap) w' (a.put (some d) (.slice (some ⟨B,0,none⟩) len cap)):=by
 have hBl:B<w'.heap.size:=(Array.getElem?_eq_some_iff.1 hB').1;have hM:∀ x,(G.row d B cap).M M0 x->G.M M0 x\/x=B:=by
  intro x hx;by_cases e:x=B
  ·exact .inr e
  ·left;unfold Gh.M Gh.row at hx;simp only[aT _ _ e]at hx;exact hx
 have hkeep:bE w' (fun x=>G.M M0 x\/x=B) w' ((G.row d B cap).M M0):=⟨ay _,fun b _ hm=>⟨fun h=>hm (hM b h),rfl⟩⟩;refine S.newEn (E:=some ⟨B,0,none⟩) hd hlen hb hgen (fun b h=>aT _ _ aw) ?_ ?_
 ·intro b h;by_cases e:b=B
  ·subst e;exact⟨.inl (ax S.le hB),hBl⟩
  ·rw[aT _ _ e]at h;exact⟨(S.own b h).1,Nat.lt_of_lt_of_le (S.own b h).2 hb.size⟩
 ·refine⟨.inr ⟨B,0,by simp[aN],hBl,fun h=>by rw[hm]at h;simp at h,aS.mono hkeep rfl _ _ _ hrows⟩,by simpa [aN]using hcap,fun _=>⟨B,ys,T,by simp[aN],by simp[aN],hB',by simpa [aN]using hys⟩,fun h=>by rw[hm]at h;simp at h⟩
theorem v6 {M:Nat->Prop} {T:TypeId} {ys:Array Value} {rs:List (List C)} {sz:Nat} (hr:∀ r∈rs,r.length=sz) (h:aY w M rs.flatten (ys.toList.take (rs.length*sz))) :
  aS (w.alloc (.cells ys T)) (fun x=>M x\/x=w.heap.size) rs w.heap.size 0 sz:=by
 have hk:bE w M (w.alloc (.cells ys T)) (fun x=>M x\/x=w.heap.size) :=
  ⟨au,fun b hb hm=>⟨by rintro (h|h);exact hm h;omega,Go.RowKit.Below.heap_alloc _ _ _ hb⟩⟩
 refine aS.of_flat hr (aY.mono hk _ _ h) fun j hj=>?_;rw[bR (cZ _ _)];simp at hj;rw[List.getElem?_take_of_lt aw];simp
theorem sL {α:Type} {n m:Nat} (h:n<=m) (x:α):List.replicate m x=List.replicate n x++List.replicate (m-n) x:=by
 rw[List.replicate_append_replicate];congr 1;omega
theorem DZ (z:List C):(mkZ z).length=z.length:=by unfold mkZ;split<;>rfl
theorem LF {w:World} {M:Nat->Prop} {l:List Value} (h:aY w M (l.map fK) l):aY w M (mkZ (l.map fK)) l:=by
 unfold mkZ;split
 ·rename_i e;obtain⟨v,rfl⟩:=List.length_eq_one_iff.1 (by simpa using congrArg List.length e:l.length=1);have hv:v = .slice none 0 0:=by
   simp only[List.map_cons,List.map_nil,List.cons.injEq,and_true]at e;unfold fK at e;split at e
   ·rfl
   ·simp at e
  subst hv;exact⟨⟨rfl,rfl⟩,trivial⟩
 ·exact h
theorem sN (S:Sim W0 M0 N st G w a) (hd:∀ d,o.dst=some d->d<N) {T:TypeId} {x y:Operand} (ho:o.op = .makeSlice T x y) (h:bu P kind D o st δ) :
  o.wp P a w (Aft W0 M0 N (st.app o.dst δ)) Q:=by
 unfold bu at h;rw[ho]at h;obtain⟨d,te,z,n,m,h1,h2,h3,h4,h5,h6,h7,h8,h9,rfl⟩:=h;obtain⟨e,ie,de,hT,hie,_,rfl⟩:=gD h2;dsimp only at h3 h4 h8;obtain⟨zv,hz,rfl,hzr⟩:=oW h3;have hzs:zv.cells.size=ie.size:=by simpa using h4
 obtain⟨k1,hx⟩:=kH (S.ev x) h5;obtain⟨k2,hy⟩:=kH (S.ev y) h6;have hbytes:(ie.bytes:Int)*(m:Int)<=281474976710656:=by
  have:(ie.bytes:Int)*(m:Int)=((m*ie.bytes:Nat):Int):=by rw[Nat.mul_comm];simp
  rw[this];omega
 have hrun:=run_make (P:=P) w T e ie zv hT hie hz k1 k2 n m aw aw hbytes aw;simp only[Int.toNat_natCast]at hrun;have hcells:madeCells zv.cells (m*ie.size)=(List.replicate m zv.cells.toList).flatten.toArray:=by
  rw[<-hzs];exact tC _ _
 rw[hcells]at hrun;refine bF (y := .slice (some ⟨w.heap.size,0,none⟩) n m) (w':=w.alloc (.cells (List.replicate m zv.cells.toList).flatten.toArray e)) (by simp[execOp,ho,hx,hy,hrun]) ?_;rw[h1];have hrl:∀ r∈List.replicate n (mkZ (zv.cells.toList.map fK)),r.length=ie.size:=fun r hr=>by rw[List.eq_of_mem_replicate hr,DZ];exact h4
 refine⟨_,S.newRow (n:=⟨_,_,_,_,_⟩) (B:=w.heap.size) (cap:=m) (len:=n) (hd d h1) au ((bq.refl _ _).alloc (ay _) _) rfl (ay _) (cZ _ _) (by simp[hzs]) (by simpa using h7) rfl ?_⟩;refine v6 hrl ?_;have hr:=jk (LF (hzr w (G.M M0))) n;have e1:((List.replicate m zv.cells.toList).flatten.toArray.toList).take ((List.replicate n (mkZ (zv.cells.toList.map fK))).length*ie.size)=(List.replicate n zv.cells.toList).flatten:=by
  rw[List.length_replicate,sL h7,List.flatten_append];exact List.take_left' (by simp[hzs])
 rw[e1];exact hr
theorem Gn (S:Sim W0 M0 N st G w a) (hd:∀ d,o.dst=some d->d<N) {c:Call} (ho:o.op = .call c) (hc:c.callee = .builtin .len) (h:bu P kind D o st δ) :
  o.wp P a w (Aft W0 M0 N (st.app o.dst δ)) Q:=by
 unfold bu at h;simp only[ho,hc]at h;obtain⟨x,n,h1,h2,_,h3,rfl⟩:=h;obtain⟨p,cap,hx,_⟩:=D4 S (S.ev x) h2;have ha:c.args = #[x]:=by apply Array.ext';simpa using h1
 cases ht:c.argTypes[0]? with
 | none=>simp[ht]at h3
 | some t =>
  cases hti:tinfo P t with
  | none=>simp[ht,hti]at h3
  | some ti =>
   obtain⟨i,d,hi,hds,rfl⟩:=bH hti;cases he:qp d with
   | none=>simp[ht,hti,he]at h3
   | some e =>
    obtain rfl:=lM he;refine eX S hd rfl ?_;simp[execOp,ho,resolve,hc,ha,invoke,builtin,Builtin.len_,ht,hx,run_underlying hds,goInt]
theorem qc (S:Sim W0 M0 N st G w a) (hd:∀ d,o.dst=some d->d<N) {c:Call} (ho:o.op = .call c) (hc:c.callee = .builtin .max\/c.callee = .builtin .min) (h:bu P kind D o st δ) :
  o.wp P a w (Aft W0 M0 N (st.app o.dst δ)) Q:=by
 unfold bu at h;rcases hc with hc|hc<;>simp only[ho,hc]at h<;>obtain⟨x,y,k,p,q,h1,h2,h3,rfl⟩:=h
 ·have hx:=S.ev x;rw[h2]at hx;have hx:=jW hx;have hy:=S.ev y;rw[h3]at hy;have hy:=jW hy;have ha:c.args = #[x,y]:=by apply Array.ext';simpa using h1
  refine eX S hd rfl ?_;simp[execOp,ho,resolve,hc,ha,invoke,builtin,Builtin.max_,hx,hy,Builtin.max2];split<;>omega
 ·have hx:=S.ev x;rw[h2]at hx;have hx:=jW hx;have hy:=S.ev y;rw[h3]at hy;have hy:=jW hy;have ha:c.args = #[x,y]:=by apply Array.ext';simpa using h1
  refine eX S hd rfl ?_;simp[execOp,ho,resolve,hc,ha,invoke,builtin,Builtin.min_,hx,hy,Builtin.min2];split<;>omega
end
section
variable {P:Program} {kind:FuncId->CK} {D:Option DI} {W0:cW} {M0:Nat->Prop} {N:Nat} {st:St} {G:Gh} {w:World} {a:Act} {o:Oper} {Q:Exit->Act->World->Prop} {δ:Dl}
theorem qZ (t u ty e e':TypeId) (i:TypeInfo) (z:Value) (ht:P.underlying t=some (.slice e)) (hu:P.underlying u=some (.slice e')) (hi:P.info? e=some i) (hz:i.zero=some z)
  (base:Option Addr) (sLen sCap:Nat) (olds:List Value) (holds:(Builtin.firstCells i.size sLen (.slice base sLen sCap)).run P w.drew = .ok olds.toArray w.drew)
  (p:Option Addr) (n c:Nat) (news:List Value) (hnews:(Builtin.firstCells i.size n (.slice p n c)).run P w.drew = .ok news.toArray w.drew)
  (hg:sCap<sLen+n) (h63:((sLen+n:Nat):Int)<=9223372036854775807) (hfit:Builtin.nextslicecap (sLen+n) sCap*i.bytes<=281474976710656) :
  (Builtin.append_ #[t,u] ty #[.slice base sLen sCap,.slice p n c]).run P w =
   .ok (.slice (some ⟨w.heap.size,0,none⟩) (sLen+n) (grownCap w (sLen+n) sCap e))
    (w.drew.alloc (.cells (olds.toArray++news.toArray++Builtin.zeroCells z.cells (grownCap w (sLen+n) sCap e-(sLen+n))) e)):=by
 have hn:¬ (sLen+n<=sCap):=aw;have h63':¬ (9223372036854775807<((sLen:Int)+(n:Int))):=aw;have h48':¬ (281474976710656<Builtin.nextslicecap (sLen+n) sCap*i.bytes):=aw;simp[Builtin.append_,run_underlying ht,run_underlying hu,sizeOf,typeInfo,zeroValue,hi,hz,Builtin.lenOf,hn,h63',h48',Question.forced,hnews,holds,newRow,grownCap];congr 2;apply Array.ext';simp[List.append_assoc]
theorem qY (t u ty e e':TypeId) (i:TypeInfo) (ht:P.underlying t=some (.slice e)) (hu:P.underlying u=some (.slice e')) (hi:P.info? e=some i)
  (g sLen sCap:Nat) (T:TypeId) (cur:Array Value) (hg:w.heap[g]?=some (.cells cur T (0,0)))
  (p:Option Addr) (m c:Nat) (news:List Value) (hnews:(Builtin.firstCells i.size m (.slice p m c)).run P w = .ok news.toArray w) (h1:∀ u∈news,u.oneCell'=true)
  (hroom:sLen+m<=sCap) (hfit:sLen*i.size+news.length<=cur.size) :
  (Builtin.append_ #[t,u] ty #[.slice (some ⟨g,0,none⟩) sLen sCap,.slice p m c]).run P w =
   .ok (.slice (some ⟨g,0,none⟩) (sLen+m) sCap) (w.setRow g (cur.toList.take (sLen*i.size)++news++cur.toList.drop (sLen*i.size+news.length)).toArray):=by
 have hst:=run_storeCells_at P g (sLen*i.size) T news 0 cur w hg (by simpa using hfit) h1;simp only[Nat.add_zero]at hst;simp[Builtin.append_,run_underlying ht,run_underlying hu,sizeOf,typeInfo,hi,Builtin.lenOf,hroom,hnews,Addr.add_lit,hst]
theorem lm (t u ty e e':TypeId) (i:TypeInfo) (ht:P.underlying t=some (.slice e)) (hu:P.underlying u=some (.slice e')) (hi:P.info? e=some i)
  (base:Option Addr) (sLen sCap:Nat) (hle:sLen<=sCap) (p:Option Addr) (c:Nat) (hnews:(Builtin.firstCells i.size 0 (.slice p 0 c)).run P w = .ok #[] w) :
  (Builtin.append_ #[t,u] ty #[.slice base sLen sCap,.slice p 0 c]).run P w = .ok (.slice base sLen sCap) w:=by
 cases base<;>simp[Builtin.append_,run_underlying ht,run_underlying hu,sizeOf,typeInfo,hi,Builtin.lenOf,hle,hnews,storeCells]
theorem fu {rs:List (List C)} {p:Option Addr} {sz cap:Nat} {M:Nat->Prop} (h:rs=[]\/∃ b o sz',p=some ⟨b,o,none⟩/\b<w.heap.size/\aS w M rs b o sz') (hl:∀ r∈rs,r.length=sz) :
  ∃ zs,aY w M rs.flatten zs/\zs.length=rs.length*sz/\∀ w',w'.heap=w.heap->(Builtin.firstCells sz rs.length (.slice p rs.length cap)).run P w' = .ok zs.toArray w':=by
 rcases h with rfl|⟨b,o,sz',rfl,_,h⟩
 ·refine⟨[],trivial,au,fun w' _=>?_⟩;cases p with
  | none=>simp[Builtin.firstCells]
  | some a=>simp[Builtin.firstCells,loadCells,loadCellsFrom]
 ·obtain⟨zs,h1,h2,h3⟩:=h.flat;have hlen:=h1.length;rw[cy hl]at hlen;refine⟨zs,h1,hlen.symm,fun w' hw=>?_⟩;refine run_firstCells_some w' sz rs.length _ _ _ zs hlen.symm fun j v hj=>?_;have hjl:j<zs.length:=by
   rcases Nat.lt_or_ge j zs.length with h'|h'
   ·exact h'
   ·rw[List.getElem?_eq_none h']at hj;simp at hj
  rw[pr,<-hj,<-h3 j hjl];simp only[World.cell?,hw]
theorem sK (z:Array Value) (n:Nat):(Builtin.zeroCells z n).size=n*z.size:=by simp[Builtin.zeroCells]
theorem Ji (w:World) (need old:Nat) (e:TypeId):need<=grownCap w need old e:=by
 simp only[grownCap,Question.cut];omega
theorem Jo {st:St} {G:Gh} {w:World} {M:Nat->Prop} {v:AV} {y:Value} (h:eH w M st G v y):eH w M st G v.full y:=by
 unfold AV.full;split
 ·obtain⟨rfl,_⟩:=h;exact⟨none,0,rfl,rfl,.inl rfl⟩
 ·exact h
theorem yl (S:Sim W0 M0 N st G w a) (hd:∀ d,o.dst=some d->d<N) {c:Call} (ho:o.op = .call c) (hc:c.callee = .builtin .append) (h:bu P kind D o st δ) :
  o.wp P a w (Aft W0 M0 N (st.app o.dst δ)) Q:=by
 unfold bu at h;simp only[ho,hc]at h;obtain⟨d,x,y,t,u,te,xs,h1,h2,h3,hte,h5,h6,⟨z,h7,h7'⟩,h8,h8',h9,_,h10⟩:=h;have hargs:c.args = #[x,y]:=by apply Array.ext';simpa using h2
 have htys:c.argTypes = #[t,u]:=by apply Array.ext';simpa using h3
 obtain⟨e,ie,de,hT,hie,_,rfl⟩:=gD hte;obtain⟨e',hU⟩:∃ e',P.underlying u=some (.slice e'):=by
  cases hti:tinfo P u with
  | none=>simp[hti]at h5
  | some ti =>
   obtain⟨i,dd,_,hds,rfl⟩:=bH hti;cases he:qp dd with
   | none=>simp[hti,he]at h5
   | some e'=>exact⟨e',by rw[hds,lM he]⟩
 dsimp only at h7 h7' h8 h8' h9;obtain⟨zv,hz,rfl,hzr⟩:=oW h7;have hzs:zv.cells.size=ie.size:=by simpa using h7'
 have hv:=Jo (S.ev x);obtain⟨p,cap,hy,hcap,hyr⟩:=nq S (S.ev y) h6;obtain⟨zs,hzs1,hzs2,hzs3⟩:=fu (P:=P) (cap:=cap) hyr h9;have hexec:∀(bv v:Value) (w':World),a.eval x=bv->(Builtin.append_ #[t,u] o.type #[bv,.slice p xs.length cap]).run P w = .ok v w' ->
   (execOp a.eval o).run P w = .ok (.value v) w':=by
  intro bv v w' hb hr;simp[execOp,ho,resolve,hc,hargs,invoke,builtin,hb,hy,htys,hr]
 have hdN:=hd d h1;have hgrow:∀(bv:Value) (base:Option Addr) (rs:List (List C)) (sCap:Nat) (olds:List Value) (kill:Option Nat),a.eval x=bv->bv = .slice base rs.length sCap ->
   (∀ r∈rs,r.length=ie.size)->aY w (G.M M0) rs.flatten olds->(∀ w',w'.heap=w.heap->(Builtin.firstCells ie.size rs.length (.slice base rs.length sCap)).run P w' = .ok olds.toArray w') ->
   sCap<rs.length+xs.length->(rs.length+xs.length)*ie.bytes<=2 ^ 47 ->
   o.wp P a w (Aft W0 M0 N (st.app (some d) { v := .sl d ((st.e d).gen+1) (rs.length+xs.length),ne:=some ⟨(st.e d).gen+1,ie.size,rs++xs,true,true⟩,kill:=kill })) Q:=by
  intro bv base rs sCap olds kill hb hbv hrs holds hfirst hlt hfit;subst hbv;have hneed:rs.length+xs.length<=2 ^ 47:=ax (Nat.le_mul_of_pos_right _ h8') hfit;have hrun:=qZ (P:=P) (w:=w) t u o.type e e' ie zv hT hU hie hz base rs.length sCap olds (hfirst _ rfl) p xs.length cap zs (hzs3 _ rfl) hlt aw
   (growslice_fits hlt hfit)
  refine bF (hexec _ _ _ hb hrun) ?_;rw[h1];generalize hcapn:grownCap w (rs.length+xs.length) sCap e=nc at *
  have hnc:rs.length+xs.length<=nc:=by rw[<-hcapn];exact Ji _ _ _ _
  have hol:=holds.length;rw[cy hrs]at hol;have hb2:bq w.heap.size w (w.drew.alloc (.cells (olds.toArray++zs.toArray++Builtin.zeroCells zv.cells (nc-(rs.length+xs.length))) e)):=((bq.refl _ _).drew).alloc (ay _) _;refine⟨_,S.newRow (n:=⟨_,_,_,_,_⟩) (B:=w.heap.size) (cap:=nc) (len:=rs.length+xs.length) hdN au hb2 rfl (ay _) (cZ w.drew _) ?_ (by simpa using hnc) rfl ?_⟩
  ·simp only[Array.size_append,sK,hzs,List.size_toArray,<-hol,hzs2,<-Nat.add_mul];congr 1;omega
  ·have hr':∀ r∈rs++xs,r.length=ie.size:=fun r hr=>by
    rcases List.mem_append.1 hr with hr|hr
    ·exact hrs r hr
    ·exact h9 r hr
   have:=v6 (w:=w.drew) (M:=G.M M0) (T:=e) (ys:=olds.toArray++zs.toArray++Builtin.zeroCells zv.cells (nc-(rs.length+xs.length))) hr' (by
    have hh:aY w.drew (G.M M0) (rs.flatten++xs.flatten) (olds++zs):=aY.mono (bE.of_below (bq.refl _ _).drew) _ _ (holds.append hzs1);rw[List.flatten_append];have e1:((olds.toArray++zs.toArray++Builtin.zeroCells zv.cells (nc-(rs.length+xs.length))).toList).take ((rs++xs).length*ie.size)=olds++zs:=by
     simp only[Array.toList_append];exact List.take_left' (by simp[<-hol,hzs2,Nat.add_mul])
    rw[e1];exact hh)
   exact this
 split at h10
 ·rename_i rs e0;obtain⟨h11,h12,rfl⟩:=h10;dsimp only at h11 h12;rw[e0]at hv;obtain⟨base,len,hx,rfl,hbr⟩:=hv;by_cases hxs:xs=[]
  ·subst hxs;have hn:=hzs3 w rfl;obtain rfl:zs=[]:=by cases zs with|nil=>rfl|cons z zs=>exact hzs1.elim
   have hrun:=lm (P:=P) (w:=w) t u o.type e e' ie hT hU hie base rs.length rs.length (ay _) p cap hn;refine bF (hexec _ _ _ hx hrun) ?_;rw[h1];refine⟨_,S.newEn (E:=base) (own':=G.own) hdN au (bq.refl _ _) rfl (fun _ _=>rfl) S.own ?_⟩;refine⟨?_,by simp[aN],fun h=>by simp at h,fun _ _=>by simp[aN]⟩;rcases hbr with hbr|⟨b,off,sz,k1,k2,k3,k4⟩
   ·left;simp[hbr]
   ·by_cases hre:rs=[]
    ·left;simp[hre]
    ·right;refine⟨b,off,by simpa [aN]using k1,k2,fun _=>k3,?_⟩;have hsz:sz=ie.size:=by
      have h0:0<rs.length:=List.length_pos_iff.2 hre;rw[<-(k4.get (aD h0)).1,h11 _ (List.getElem_mem h0)]
     subst hsz;show aS w (G.M M0) (rs++[]) b off ie.size;rw[List.append_nil];exact k4
  ·have hpos:0<xs.length:=List.length_pos_iff.2 hxs;have hemp:xs.isEmpty=false:=by simp[hxs]
   rw[h1,hemp];obtain⟨olds,g1,g2,g3⟩:=fu (P:=P) (cap:=rs.length) (rs:=rs) (p:=base) (M:=G.M M0) (by
    rcases hbr with hbr|⟨b,off,sz,e1,e2,_,e4⟩
    ·exact .inl hbr
    ·exact .inr ⟨b,off,sz,e1,e2,e4⟩) h11
   exact hgrow _ base rs rs.length olds none hx rfl h11 g1 g3 aw h12
 ·rename_i t' g len e0;obtain⟨h11,h12,h13,rfl,h14,h15,h16,h17,rfl⟩:=h10;dsimp only at h14 h15;rw[e0]at hv;obtain⟨_,hx⟩:=hv.2 h11 h12;have hgp:0<(st.e t').gen:=aw;obtain⟨f1,f2,f3,f4⟩:=S.en t' hgp;have hrows:∀ r∈(st.e t').rs,r.length=ie.size:=by
   rcases f1 with f1|⟨b,o',_,_,_,g4⟩
   ·rw[f1];simp
   ·rw[h14];exact g4.lens
  rw[h1];by_cases hroom:(st.e t').rs.length+xs.length<=G.cap t'
  ·cases hm:(st.e t').m with
   | true =>
    obtain⟨b,ys,T,g1,g2,g3,g4⟩:=f3 hm;rw[g1]at hx;have hfit:(st.e t').rs.length*ie.size+zs.length<=ys.size:=by
     rw[hzs2,g4,<-h14,<-Nat.add_mul];exact Nat.mul_le_mul_right _ hroom
    have hrun:=qY (P:=P) (w:=w) t u o.type e e' ie hT hU hie b _ _ T ys g3 p xs.length cap zs (hzs3 w rfl) hzs1.oneCell hroom hfit;refine bF (hexec _ _ _ hx hrun) ?_;rw[h1];have:=S.growEn (d:=d) (t:=t') (b:=b) (xs:=xs) (zs:=zs) (ys:=ys) (T:=T) (app:=true) hdN h16 hgp hm hzs1 (by rw[<-h14];exact h9) g1 g3 hroom;rw[<-h14]at this;exact⟨_,this⟩
   | false =>
    have hc0:=f4 hm h13;obtain rfl:xs=[]:=List.eq_nil_of_length_eq_zero aw;have hn:=hzs3 w rfl;obtain rfl:zs=[]:=by cases zs with|nil=>rfl|cons z zs=>exact hzs1.elim
    have hrun:=lm (P:=P) (w:=w) t u o.type e e' ie hT hU hie (qx (G.E t')) _ _ f2 p cap hn;refine bF (hexec _ _ _ hx hrun) ?_;rw[h1];refine⟨_,S.newEn (E:=G.E t') (own':=G.own) hdN au (bq.refl _ _) rfl (fun _ _=>rfl) S.own ?_⟩;have hk:bE w (G.M M0) w (({ G with E:=upd G.E d (G.E t'),cap:=upd G.cap d (G.cap t'),own:=G.own }:Gh).M M0):=bE.refl _ _
    refine⟨?_,by simpa [aN]using f2,fun h=>by simp at h,fun _ _=>by simpa [aN]using hc0⟩;rcases f1 with f1|⟨b,o',g1,g2,g3,g4⟩
    ·left;simp[f1]
    ·right;refine⟨b,o',by simpa [aN]using g1,g2,fun _=>g3 hm,?_⟩;show aS w (G.M M0) ((st.e t').rs++[]) b o' ie.size;rw[List.append_nil,h14];exact g4
  ·have hpos:xs.length≠0:=aw;have hemp:xs.isEmpty=false:=by
    cases xs with
    | nil=>simp at hpos
    | cons _ _=>rfl
   rw[hemp];simp only[Bool.not_false,Bool.or_true];obtain⟨olds,g1,g2,g3⟩:=fu (P:=P) (cap:=G.cap t') (rs:=(st.e t').rs) (p:=qx (G.E t')) (w:=w) (M:=G.M M0) (by
    rcases f1 with f1|⟨b,o',k1,k2,_,k4⟩
    ·exact .inl f1
    ·exact .inr ⟨b,o',_,k1,k2,k4⟩) hrows
   exact hgrow _ (qx (G.E t')) (st.e t').rs (G.cap t') olds (some t') hx rfl hrows g1 g3 aw h15
 ·exact h10.elim
end
section
variable {P:Program} {kind:FuncId->CK} {D:Option DI} {W0:cW} {M0:Nat->Prop} {N:Nat} {st:St} {G:Gh} {w:World} {a:Act} {o:Oper} {Q:Exit->Act->World->Prop} {δ:Dl}
theorem nW (S:Sim W0 M0 N st G w a):∀{l:List Operand} {xs:List IV},eF (fun x=>st.toIV (st.ev x)) l=some xs->cV w (G.M M0) xs (l.map a.eval)
 | [],xs,h=>by simp[eF]at h;subst h;trivial
 | x::l,xs,h=>by
  simp only[eF]at h;cases hx:st.toIV (st.ev x)with
  | none=>simp[hx]at h
  | some y =>
   cases hl:eF (fun x=>st.toIV (st.ev x)) l with
   | none=>simp[hx,hl]at h
   | some ys =>
    simp[hx,hl]at h;subst h;exact⟨lh S (S.ev x) hx,nW S hl⟩
theorem C3 (S:Sim W0 M0 N st G w a) {c:Call} {f:FuncId} (h:c8 st c=some f):∃ x,c.callee = .value x/\a.eval x = .func (.func f) #[] #[]:=by
 unfold c8 at h;split at h
 ·rename_i x hx;split at h
  ·rename_i g p q hg;split at h
   ·rename_i hpq;cases h;have:=S.ev x;rw[hg]at this;refine⟨x,hx,?_⟩;rw[jW this,Array.eq_empty_of_size_eq_zero hpq.1,Array.eq_empty_of_size_eq_zero hpq.2]
   ·simp at h
  ·simp at h
 ·simp at h
theorem uW {f:FuncId} (h:n8 P f) (args:Array Value) (w:World):(callFunc f args).run P w = .ok (.enter f args) w:=by
 obtain⟨fn,c,h1,h2,h3⟩:=h;have h3' : ¬ fn.name = "runtime.NumGoroutine" := by simpa using h3
 simp[callFunc,h1,h2,h3']
theorem lO (S:Sim W0 M0 N st G w a) {c:Call} {f:FuncId} (ho:o.op = .call c) (h:c8 st c=some f) (he:n8 P f) :
  (execOp a.eval o).run P w = .ok (.enter f (c.args.toList.map a.eval).toArray) w:=by
 obtain⟨x,hx,hv⟩:=C3 S h;simp only[execOp,ho,resolve,hx,hv,Deferred.ofValue,pure_bind,invoke];have:(#[]++Array.map a.eval c.args ++ #[])=(c.args.toList.map a.eval).toArray:=by
  apply Array.ext';simp
 rw[this];exact uW he _ _
theorem HW {M:Nat->Prop} {res:List IV} {y:Value} (h:yw w M res y):eH w M st G (rv res) y:=by
 cases res with
 | nil=>exact h
 | cons x l =>
  cases l with
  | nil=>exact h
  | cons _ _=>exact h
theorem mbelow (S:Sim W0 M0 N st G w a):∀ b,G.M M0 b->b<w.heap.size:=by
 rintro b (h|h)
 ·exact Nat.lt_of_lt_of_le (S.m0 b h).1 S.le
 ·exact(S.own b h).2
theorem C4 (S:Sim W0 M0 N st G w a) (hd:∀ d,o.dst=some d->d<N) {c:Call} {x:Operand} (ho:o.op = .call c) (hc:c.callee = .value x) (h:bu P kind D o st δ) :
  o.wp P a w (Aft W0 M0 N (st.app o.dst δ)) Q:=by
 unfold bu at h;simp only[ho,hc]at h;obtain⟨f,args,h1,h2,_,h4⟩:=h;have hargs:=nW S h2;cases hk:kind f with
 | sem=>simp[hk]at h4
 | fn =>
  simp only[hk]at h4;obtain⟨res,⟨he,hf⟩,rfl⟩:=h4;have hrun:=lO S ho h1 he;simp only[Oper.wp,hrun,Oper.upon];refine(hf w (G.M M0) _ (mbelow S) hargs).mono ?_;rintro e w' ⟨y,rfl,hr,hb⟩;refine⟨G,?_⟩;rw[ym];exact S.put hd hb fun _=>HW hr
 | fresh =>
  simp only[hk]at h4;obtain⟨d,sz,rs,h5,_,⟨he,hf⟩,rfl⟩:=h4;have hrun:=lO S ho h1 he;simp only[Oper.wp,hrun,Oper.upon];refine(hf w (G.M M0) _ (mbelow S) hargs).mono ?_;rintro e w' ⟨p,cap,rfl,hb,hcap,hrows⟩;rw[h5];rcases hrows with⟨rfl,rfl⟩|⟨hre,b,ys,T,rfl,hB,hB',hys,hrows⟩
  ·refine⟨_,S.newEn (E:=p) (own':=G.own) (hd d h5) (ay _) hb rfl (fun _ _=>rfl) (fun b h=>⟨(S.own b h).1,Nat.lt_of_lt_of_le (S.own b h).2 hb.size⟩) ?_⟩;exact⟨.inl rfl,au,fun h=>by simp at h,fun _ _=>by simp[aN]⟩
  ·have hemp:rs.isEmpty=false:=by cases rs with|nil=>exact absurd rfl hre|cons _ _=>rfl
   rw[hemp];exact⟨_,S.newRow (n:=⟨_,_,_,_,_⟩) (hd d h5) (ay _) hb rfl hB hB' hys hcap rfl hrows⟩
theorem rf (S:Sim W0 M0 N st G w a) (hd:∀ d,o.dst=some d->d<N) (h:bu P kind D o st δ):o.wp P a w (Aft W0 M0 N (st.app o.dst δ)) Q:=by
 cases ho:o.op with
 | move x=>exact us S hd (.inl ho) h
 | assign x=>exact us S hd (.inr ho) h
 | pick c x y=>exact Cc S hd ho h
 | alloc T=>exact AI S hd ho h
 | box T x=>exact GL S hd ho h
 | build T ps=>exact AF S hd ho h
 | buildSlice T n ps=>exact rI S hd ho h
 | load T x=>exact Co S hd ho h
 | nilCheck x=>exact un S hd ho h
 | binOp op T x y U=>exact AH S hd ho h
 | unOp op T x=>exact BM S hd ho h
 | convert T U x=>exact vL S hd ho h
 | index T x y=>exact Ak S hd ho h
 | extract x n=>exact vK S hd ho h
 | field T x f=>exact Ap S hd ho h
 | fieldAddr T x f=>exact sS S hd ho h
 | indexAddr T x y=>exact sO S hd ho h
 | slice T x lo hi mx=>exact zm S hd ho h
 | makeSlice T x y=>exact sN S hd ho h
 | call c =>
  cases hc:c.callee with
  | value x=>exact C4 S hd ho hc h
  | invoke r m=>unfold bu at h;simp only[ho,hc]at h
  | builtin b =>
   cases b with
   | len=>exact Gn S hd ho hc h
   | max=>exact qc S hd ho (.inl hc) h
   | min=>exact qc S hd ho (.inr hc) h
   | append=>exact yl S hd ho hc h
   | _=>unfold bu at h;simp only[ho,hc]at h
 | _=>unfold bu at h;simp only[ho]at h
end
end Go.AM
