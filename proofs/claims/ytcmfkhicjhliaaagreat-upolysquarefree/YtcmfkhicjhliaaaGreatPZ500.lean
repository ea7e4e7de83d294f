/- Lemmas, part 1 of 23. No condition. -/
import Derived.WalkKit
import Derived.Orders
set_option maxRecDepth 65536
set_option linter.unusedSimpArgs false
set_option linter.unusedVariables false
set_option linter.unusedSectionVars false
namespace Go.AM
theorem aG {p:Prop} [Decidable p] (h:¬p):decide p=false:=decide_eq_false h
theorem aF {p:Prop} [Decidable p] (h:p):decide p=true:=decide_eq_true h
theorem aD {α:Type} {l:List α} {i:Nat} (h:i<l.length):l[i]?=some l[i]:=List.getElem?_eq_getElem h
theorem aq {α:Type} {l:List α} {i:Nat} (h:i<l.length):l.take (i+1)=l.take i++[l[i]]:=List.take_succ_eq_append_getElem h
theorem ax {a b c:Nat} (h:a<=b) (h':b<=c):a<=c:=Nat.le_trans h h'
theorem ay (n:Nat):n<=n:=Nat.le_refl n
theorem az {α β:Type} {l:List α} (f:α->β):(l.map f).length=l.length:=List.length_map f
theorem aC:(∀ p:Prop,(True/\p)=p)/\(∀(α:Type) (l:List α),l.drop 0=l)/\∀(α:Type) (a:α) (l:List α) (n:Nat),(a::l).drop (n+1)=l.drop n:=⟨true_and,fun _ _=>rfl,fun _ _ _ _=>rfl⟩
theorem aw {p:Prop} (h:p:=by omega ):p:=h
theorem av {p:Prop} (h:p:=by rfl ):p:=h
theorem aH {p:Prop} (h:p:=by decide ):p:=h
theorem aE {p:Prop} (h:p:=by decide +kernel ):p:=h
theorem au {p:Prop} (h:p:=by simp ):p:=h
theorem ar {p:Prop} (h:p:=by simp;omega ):p:=h
structure bq (B:Nat) (w w':World):Prop where
 os:w'.os=w.os
 tape:w'.tape=w.tape
 output:w'.output=w.output
 size:w.heap.size<=w'.heap.size
 drawn:w.drawn<=w'.drawn
 block:∀ k,k<B->w'.heap[k]?=w.heap[k]?
theorem bq.refl (B:Nat) (w:World):bq B w w:=⟨rfl,rfl,rfl,ay _,ay _,fun _ _=>rfl⟩
theorem bq.trans {B:Nat} {a b c:World} (h:bq B a b) (k:bq B b c):bq B a c :=
 ⟨k.os.trans h.os,k.tape.trans h.tape,k.output.trans h.output,ax h.size k.size,ax h.drawn k.drawn,fun i hi=>(k.block i hi).trans (h.block i hi)⟩
theorem bq.mono {B B':Nat} {w w':World} (h:bq B w w') (hB:B'<=B):bq B' w w':=⟨h.os,h.tape,h.output,h.size,h.drawn,fun k hk=>h.block k (Nat.lt_of_lt_of_le hk hB)⟩
theorem bq.drew {B:Nat} {a w:World} (h:bq B a w):bq B a w.drew:=⟨h.os,h.tape,h.output,h.size,Nat.le_succ_of_le h.drawn,h.block⟩
theorem bq.alloc {B:Nat} {a w:World} (h:bq B a w) (hB:B<=w.heap.size) (o:Obj):bq B a (w.alloc o) :=
 ⟨h.os,h.tape,h.output,ax h.size au,h.drawn,fun k hk=>(Go.RowKit.Below.heap_alloc w o k (Nat.lt_of_lt_of_le hk hB)).trans (h.block k hk)⟩
inductive C where
 | v (x:Value)
 | lst (rs:List (List C))
 deriving Inhabited
mutual
def cw (w:World) (M:Nat->Prop):C->Value->Prop
 | .v x,y=>y=x/\x.oneCell'=true
 | .lst rs,y=>∃ a len cap,y = .slice a len cap/\len=rs.length/\len<=cap /\
   (rs=[]\/∃ b off sz,a=some ⟨b,off,none⟩/\b<w.heap.size/\¬ M b/\aS w M rs b off sz)
def aS (w:World) (M:Nat->Prop):List (List C)->Nat->Nat->Nat->Prop
 | [],_,_,_=>True
 | r::rs,b,off,sz=>r.length=sz/\br w M r b off/\aS w M rs b (off+sz) sz
def br (w:World) (M:Nat->Prop):List C->Nat->Nat->Prop
 | [],_,_=>True
 | c::cs,b,off=>(∃ y,w.cell? ⟨b,off,none⟩=some y/\cw w M c y)/\br w M cs b (off+1)
end
def aY (w:World) (M:Nat->Prop):List C->List Value->Prop
 | [],[]=>True
 | c::cs,y::ys=>cw w M c y/\aY w M cs ys
 | _,_=>False
def bE (w:World) (M:Nat->Prop) (w':World) (M':Nat->Prop):Prop :=
 w.heap.size<=w'.heap.size/\∀ b,b<w.heap.size->¬ M b->¬ M' b/\w'.heap[b]?=w.heap[b]?
theorem vb {w w':World} {b off:Nat} (h:w'.heap[b]?=w.heap[b]?):w'.cell? ⟨b,off,none⟩=w.cell? ⟨b,off,none⟩:=by
 simp only[World.cell?,h]
mutual
theorem cw.mono {w w':World} {M M':Nat->Prop} (h:bE w M w' M'):∀(c:C) (y:Value),cw w M c y->cw w' M' c y
 | .v x,y=>fun hr=>by simp only[cw]at hr ⊢;exact hr
 | .lst rs,y=>fun hr=>by
  simp only[cw]at hr ⊢;obtain⟨a,len,cap,hy,hl,hc,hrs⟩:=hr;refine⟨a,len,cap,hy,hl,hc,?_⟩;rcases hrs with hrs|⟨b,off,sz,ha,hb,hm,hrows⟩
  ·exact .inl hrs
  ·exact .inr ⟨b,off,sz,ha,Nat.lt_of_lt_of_le hb h.1,(h.2 b hb hm).1,aS.mono h (h.2 b hb hm).2 rs off sz hrows⟩
theorem aS.mono {w w':World} {M M':Nat->Prop} (h:bE w M w' M') {b:Nat} (hb:w'.heap[b]?=w.heap[b]?) :
  ∀(rs:List (List C)) (off sz:Nat),aS w M rs b off sz->aS w' M' rs b off sz
 | [],_,_=>fun _=>by simp only[aS]
 | r::rs,off,sz=>fun hr=>by
  simp only[aS]at hr ⊢;exact⟨hr.1,br.mono h hb r off hr.2.1,aS.mono h hb rs (off+sz) sz hr.2.2⟩
theorem br.mono {w w':World} {M M':Nat->Prop} (h:bE w M w' M') {b:Nat} (hb:w'.heap[b]?=w.heap[b]?) :
  ∀(cs:List C) (off:Nat),br w M cs b off->br w' M' cs b off
 | [],_=>fun _=>by simp only[br]
 | c::cs,off=>fun hr=>by
  simp only[br]at hr ⊢;obtain⟨⟨y,hy,hc⟩,ht⟩:=hr;exact⟨⟨y,(vb hb).trans hy,cw.mono h c y hc⟩,br.mono h hb cs (off+1) ht⟩
end
theorem aY.mono {w w':World} {M M':Nat->Prop} (h:bE w M w' M'):∀(cs:List C) (ys:List Value),aY w M cs ys->aY w' M' cs ys
 | [],[]=>fun _=>trivial
 | c::cs,y::ys=>fun hr=>⟨cw.mono h c y hr.1,aY.mono h cs ys hr.2⟩
 | [],_::_=>fun hr=>hr.elim
 | _::_,[]=>fun hr=>hr.elim
theorem aY.length {w:World} {M:Nat->Prop}:∀{cs:List C} {ys:List Value},aY w M cs ys->cs.length=ys.length
 | [],[],_=>rfl
 | _::cs,_::ys,h=>by simp[aY.length h.2]
 | [],_::_,h=>h.elim
 | _::_,[],h=>h.elim
theorem aY.append {w:World} {M:Nat->Prop}:∀{cs:List C} {ys:List Value} {cs':List C} {ys':List Value},
  aY w M cs ys->aY w M cs' ys'->aY w M (cs++cs') (ys++ys')
 | [],[],_,_,_,h'=>h'
 | _::_,_::_,_,_,h,h'=>⟨h.1,aY.append h.2 h'⟩
 | [],_::_,_,_,h,_=>h.elim
 | _::_,[],_,_,h,_=>h.elim
theorem aY.drop {w:World} {M:Nat->Prop}:∀(n:Nat) {cs:List C} {ys:List Value},aY w M cs ys->aY w M (cs.drop n) (ys.drop n)
 | 0,_,_,h=>h
 | n+1,[],[],_=>by simp[aY]
 | n+1,_::_,_::_,h=>by simpa using aY.drop n h.2
 | _+1,[],_::_,h=>h.elim
 | _+1,_::_,[],h=>h.elim
theorem aY.take {w:World} {M:Nat->Prop}:∀(n:Nat) {cs:List C} {ys:List Value},aY w M cs ys->aY w M (cs.take n) (ys.take n)
 | 0,_,_,_=>by simp[aY]
 | n+1,[],[],_=>by simp[aY]
 | n+1,_::_,_::_,h=>by simpa using⟨h.1,aY.take n h.2⟩
 | _+1,[],_::_,h=>h.elim
 | _+1,_::_,[],h=>h.elim
theorem aY.oneCell {w:World} {M:Nat->Prop}:∀{cs:List C} {ys:List Value},aY w M cs ys->∀ y∈ys,y.oneCell'=true
 | [],[],_=>by simp
 | c::cs,y::ys,h=>by
  intro z hz;rcases List.mem_cons.1 hz with rfl|hz
  ·have h1:=h.1;cases c with
   | v x=>simp only[cw]at h1;rw[h1.1];exact h1.2
   | lst rs=>simp only[cw]at h1;obtain⟨a,len,cap,rfl,_⟩:=h1;rfl
  ·exact aY.oneCell h.2 z hz
 | [],_::_,h=>h.elim
 | _::_,[],h=>h.elim
theorem cw.oneCell {w:World} {M:Nat->Prop} {c:C} {y:Value} (h:cw w M c y):y.oneCell'=true:=by
 cases c with
 | v x=>simp only[cw]at h;rw[h.1];exact h.2
 | lst rs=>simp only[cw]at h;obtain⟨a,len,cap,rfl,_⟩:=h;rfl
theorem rH {y:Value} (h:y.oneCell'=true):y.cells = #[y]:=by
 cases y<;>simp[Value.oneCell',Value.cells]at h ⊢
theorem br.reps {w:World} {M:Nat->Prop} {b:Nat}:∀{cs:List C} {off:Nat},br w M cs b off ->
  ∃ ys,aY w M cs ys/\∀ i,i<cs.length->w.cell? ⟨b,off+i,none⟩=ys[i]?
 | [],_,_=>⟨[],trivial,au⟩
 | c::cs,off,h=>by
  simp only[br]at h;obtain⟨⟨y,hy,hc⟩,ht⟩:=h;obtain⟨ys,hys,hcell⟩:=br.reps ht;refine⟨y::ys,⟨hc,hys⟩,?_⟩;intro i hi;cases i with
  | zero=>simpa using hy
  | succ i =>
   have:=hcell i (by simpa using hi);simp only[List.getElem?_cons_succ];rw[<-this];congr 2;omega
theorem br.of_reps {w:World} {M:Nat->Prop} {b:Nat}:∀{cs:List C} {ys:List Value} {off:Nat},aY w M cs ys ->
  (∀ i,i<cs.length->w.cell? ⟨b,off+i,none⟩=ys[i]?)->br w M cs b off
 | [],[],_,_,_=>by simp only[br]
 | c::cs,y::ys,off,h,hc=>by
  simp only[br];refine⟨⟨y,?_,h.1⟩,br.of_reps h.2 fun i hi=>?_⟩
  ·have:=hc 0 au;simpa using this
  ·have:=hc (i+1) (by simpa using hi);simp only[List.getElem?_cons_succ]at this;rw[<-this];congr 2;omega
 | [],_::_,_,h,_=>h.elim
 | _::_,[],_,h,_=>h.elim
theorem br.drop {w:World} {M:Nat->Prop} {b:Nat}:∀(n:Nat) {cs:List C} {off:Nat},br w M cs b off->n<=cs.length->br w M (cs.drop n) b (off+n)
 | 0,_,_,h,_=>by simpa using h
 | n+1,[],_,_,hn=>by simp at hn
 | n+1,c::cs,off,h,hn=>by
  simp only[br]at h;have:=br.drop n h.2 (by simpa using hn);rw[show off+(n+1)=off+1+n from by omega];simpa using this
theorem aS.get {w:World} {M:Nat->Prop} {b sz:Nat}:∀{rs:List (List C)} {off i:Nat} {r:List C},aS w M rs b off sz->rs[i]?=some r ->
  r.length=sz/\br w M r b (off+i*sz)
 | [],_,_,_,_,h=>by simp at h
 | r::rs,off,0,r',h,hi=>by
  simp only[aS]at h;simp at hi;subst hi;simpa using⟨h.1,h.2.1⟩
 | r::rs,off,i+1,r',h,hi=>by
  simp only[aS]at h;have:=aS.get h.2.2 (i:=i) (by simpa using hi);rw[show off+(i+1)*sz=off+sz+i*sz from by rw[Nat.add_mul];omega];exact this
theorem aS.of_get {w:World} {M:Nat->Prop} {b sz:Nat}:∀{rs:List (List C)} {off:Nat},
  (∀ i r,rs[i]?=some r->r.length=sz/\br w M r b (off+i*sz))->aS w M rs b off sz
 | [],_,_=>by simp only[aS]
 | r::rs,off,h=>by
  simp only[aS];have h0:=h 0 r au;refine⟨h0.1,by simpa using h0.2,aS.of_get fun i r' hi=>?_⟩;have:=h (i+1) r' (by simpa using hi);rw[show off+sz+i*sz=off+(i+1)*sz from by rw[Nat.add_mul];omega];exact this
theorem aS.drop {w:World} {M:Nat->Prop} {b sz:Nat} {rs:List (List C)} {off:Nat} (n:Nat) (h:aS w M rs b off sz) :
  aS w M (rs.drop n) b (off+n*sz) sz:=by
 refine aS.of_get fun i r hi=>?_;rw[List.getElem?_drop]at hi;have:=aS.get h hi;rw[show off+n*sz+i*sz=off+(n+i)*sz from by rw[Nat.add_mul];omega];exact this
theorem aS.take {w:World} {M:Nat->Prop} {b sz:Nat} {rs:List (List C)} {off:Nat} (n:Nat) (h:aS w M rs b off sz) :
  aS w M (rs.take n) b off sz:=by
 refine aS.of_get fun i r hi=>?_;rw[List.getElem?_take]at hi;split at hi
 ·exact aS.get h hi
 ·simp at hi
theorem aS.append {w:World} {M:Nat->Prop} {b sz:Nat}:∀{rs rs':List (List C)} {off:Nat},aS w M rs b off sz->aS w M rs' b (off+rs.length*sz) sz ->
  aS w M (rs++rs') b off sz
 | [],rs',off,_,h'=>by simpa using h'
 | r::rs,rs',off,h,h'=>by
  simp only[aS,List.cons_append]at h ⊢;refine⟨h.1,h.2.1,aS.append h.2.2 ?_⟩;have e:off+(r::rs).length*sz=off+sz+rs.length*sz:=by rw[List.length_cons,Nat.add_mul];omega
  rw[e]at h';exact h'
inductive IV where
 | c (x:C)
 | g (cs:List C)
 deriving Inhabited
def IV.cells:IV->List C
 | .c x=>[x]
 | .g cs=>cs
def jc (w:World) (M:Nat->Prop):IV->Value->Prop
 | .c x,y=>cw w M x y
 | .g cs,y=>∃ ys,y = .agg ys/\aY w M cs ys.toList
def cV (w:World) (M:Nat->Prop):List IV->List Value->Prop
 | [],[]=>True
 | c::cs,y::ys=>jc w M c y/\cV w M cs ys
 | _,_=>False
inductive AV where
 | i (x:IV)
 | fl (rs:List (List C))
 | ip (cs:List C)
 | bp (t g off:Nat)
 | sl (t g len:Nat)
 | ep (t g idx off:Nat)
 | tup (xs:List IV)
 | mp (t g:Nat)
 | clo (f:Nat) (ts:List (Nat×Nat))
 | sub (t g lo len sz:Nat)
 | any
 deriving Inhabited
abbrev sc (x:Value):AV := .i (.c (.v x))
structure BX where
 gen:Nat
 cs:List C
structure EN where
 gen:Nat
 sz:Nat
 rs:List (List C)
 m:Bool
 app:Bool
structure MP where
 gen:Nat
 kv:List (List C×List C)
 of:Option Nat:=none
 cur:Option (List C×List C):=none
structure St where
 t:Nat->AV
 b:Nat->BX
 e:Nat->EN
 p:Nat->MP
def upd {α:Type} (f:Nat->α) (d:Nat) (v:α) (n:Nat):α:=bif Nat.beq n d then v else f n
def fK:Value->C
 | .slice none 0 0 => .lst []
 | x => .v x
def mA:Value->AV
 | .slice none 0 0 => .fl []
 | .agg cs=>if cs.toList.all Value.oneCell' then .i (.g (cs.toList.map fK))else .any
 | .tuple _ => .any
 | x => .i (.c (.v x))
def St.ev (st:St):Operand->AV
 | .tmp n=>st.t n
 | .const v=>mA v
 | .global _ => .any
 | .func f => .i (.c (.v (.func (.func f) #[] #[])))
def St.put (st:St) (dst:Option Tmp) (v:AV):St :=
 match dst with
 | some d=>{ st with t:=upd st.t d v }
 | none=>st
def St.toIV (st:St):AV->Option IV
 | .i x=>some x
 | .fl rs=>some (.c (.lst rs))
 | .sl t g len=>bif Nat.blt 0 g && Nat.beq (st.e t).gen g && !(st.e t).m then some (.c (.lst ((st.e t).rs.take len)))else none
 | _=>none
def St.rows (st:St):AV->Option (List (List C))
 | .i (.c (.lst rs))=>some rs
 | .fl rs=>some rs
 | .sl t g len=>bif Nat.blt 0 g && Nat.beq (st.e t).gen g then some ((st.e t).rs.take len)else none
 | _=>none
def St.len (st:St):AV->Option Nat
 | .i (.c (.lst rs))=>some rs.length
 | .fl rs=>some rs.length
 | .sl t g len=>bif Nat.blt 0 g && Nat.beq (st.e t).gen g then some len else none
 | _=>none
def vQ:List C->Option (List Value)
 | []=>some []
 | .v x::cs=>(vQ cs).map (x :: ·)
 | _::_=>none
def AV.pv:AV->Option Value
 | .i (.c (.v x))=>some x
 | .i (.g cs)=>(vQ cs).map fun l => .agg l.toArray
 | _=>none
structure TI where
 agg:Bool
 size:Nat
 bytes:Nat
 zero:Option (List C)
 elem:Option TypeId
 arr:Option (Nat×TypeId)
 flds:List (Nat×TypeId)
def Ax:TypeDesc->Bool
 | .struct _ | .array _ _=>true
 | _=>false
def qp:TypeDesc->Option TypeId
 | .slice e=>some e
 | _=>none
def CS:TypeDesc->Option (Nat×TypeId)
 | .array n e=>some (n,e)
 | _=>none
def u6:TypeDesc->List (Nat×TypeId)
 | .struct fs=>fs.toList.map fun f=>(f.offset,f.type)
 | _=>[]
def rV (v:Value):Option (List C):=if v.cells.toList.all Value.oneCell' then some (v.cells.toList.map fK)else none
def tinfo (P:Program) (t:TypeId):Option TI :=
 match P.info? t,P.underlying t with
 | some i,some d=>some { agg:=Ax d,size:=i.size,bytes:=i.bytes,zero:=i.zero.bind rV,elem:=qp d,arr:=CS d,flds:=u6 d }
 | _,_=>none
def AV.full:AV->AV
 | .i (.c (.v (.slice none 0 0))) => .fl []
 | v=>v
def mkZ:List C->List C
 | [.lst []]=>[.v (.slice none 0 0)]
 | z=>z
def ez (P:Program) (s:Sem Value) (z:Value):Prop:=∀ w,s.run P w = .ok z w
structure DI where
 al:List Nat
 eff:Bool
 fr:Bool
 nk:Option (List Nat):=none
def okB (D:Option DI) (t:Nat):Prop:=match D with|none=>True|some d=>d.al.contains t=false
def okE (D:Option DI) (t:Nat):Prop:=match D with|none=>True|some d=>d.eff=false\/∃ ks,d.nk=some ks/\ks.contains t=false
def nA (D:Option DI) (v:AV):Prop:=match v with | .sl _ _ _=>∀ d,D=some d->d.nk=none|_=>True
structure Dl where
 v:AV
 nb:Option (List C):=none
 ne:Option EN:=none
 kill:Option Nat:=none
def St.app (st:St) (dst:Option Tmp) (δ:Dl):St :=
 match dst with
 | none=>st
 | some d =>
  {t:=upd st.t d δ.v
   b:=match δ.nb with|some cs=>upd st.b d ⟨(st.b d).gen+1,cs⟩|none=>st.b
   e:=match δ.ne with
    | some n=>upd (match δ.kill with|some k=>upd st.e k ⟨(st.e k).gen+1,0,[],false,false⟩|none=>st.e) d n
    | none=>st.e
   p:=st.p }
def St.cellsOf (st:St) (D:Option DI) (v:AV) (cs:List C):Prop :=
 match v with
 | .ip l=>cs=l
 | .bp t g off=>(st.b t).gen=g/\0<g/\okB D t/\cs=(st.b t).cs.drop off
 | .ep t g idx off=>(st.e t).gen=g/\0<g/\okE D t/\∃ r,(st.e t).rs[idx]?=some r/\cs=r.drop off
 | _=>False
def ldv (ti:TI) (cs:List C):Option IV :=
 if ti.agg then(if ti.size<=cs.length then some (.g (cs.take ti.size))else none)
 else match cs with|c::_=>some (.c c)|[]=>none
def cJ (cs:List C) (off:Nat) (xs:List C):List C:=cs.take off++xs++cs.drop (off+xs.length)
def mT (pl:List (Nat×Nat)):List C->List (Nat×List C)->Option (List C)
 | cs,[]=>some cs
 | cs,(i,xs)::l=>match pl[i]? with
  | none=>none
  | some p=>if xs.length=p.2/\p.1+xs.length<=cs.length then mT pl (cJ cs p.1 xs) l else none
def eF {α β:Type} (f:α->Option β):List α->Option (List β)
 | []=>some []
 | x::xs=>match f x,eF f xs with
  | some y,some ys=>some (y::ys)
  | _,_=>none
def lH (v:AV) (i:Int):Prop:=∃ k,v=sc (.int k i)
def St.partCells (st:St) (ps:List (Nat×Operand)):Option (List (Nat×List C)) :=
 eF (fun p=>(st.toIV (st.ev p.2)).map fun x=>(p.1,x.cells)) ps
def okF (D:Option DI):Prop:=match D with|none=>True|some d=>d.fr=true
def ro (D:Option DI) (x:Operand) (v:AV):Prop:=match v with | .sl t _ _=>okE D t\/okF D/\x = .tmp t|_=>True
def fW (D:Option DI) (v:AV):Prop:=match v with | .sl t _ _=>okE D t|_=>True
inductive CK where
 | fn
 | fresh
 | sem
 deriving DecidableEq
def n8 (P:Program) (f:FuncId):Prop :=
 ∃ fn c, P.funcs[f]? = some fn /\ fn.body = some c /\ (fn.name == "runtime.NumGoroutine") = false
def yw (w:World) (M:Nat->Prop) (res:List IV) (y:Value):Prop :=
 match res with
 | [x]=>jc w M x y
 | xs=>∃ ys,y = .tuple ys/\cV w M xs ys.toList
def rv (res:List IV):AV :=
 match res with
 | [x] => .i x
 | xs => .tup xs
def Fn (P:Program) (f:FuncId) (args res:List IV):Prop :=
 n8 P f/\∀(w:World) (M:Nat->Prop) (vs:List Value),(∀ b,M b->b<w.heap.size)->cV w M args vs ->
  Calls P f vs.toArray w fun e w'=>∃ y,e = .returned y/\yw w' M res y/\bq w.heap.size w w'
def FnM (P:Program) (f:FuncId) (args:List IV) (sz:Nat) (rs:List (List C)):Prop :=
 n8 P f/\∀(w:World) (M:Nat->Prop) (vs:List Value),(∀ b,M b->b<w.heap.size)->cV w M args vs ->
  Calls P f vs.toArray w fun e w'=>∃ a cap,e = .returned (.slice a rs.length cap)/\bq w.heap.size w w'/\rs.length<=cap /\
   ((rs=[]/\cap=0)\/rs≠[]/\∃ b ys T,a=some ⟨b,0,none⟩/\w.heap.size<=b/\w'.heap[b]?=some (.cells ys T (0,0))/\ys.size=cap*sz /\
    aS w' (fun x=>M x\/x=b) rs b 0 sz)
def c8 (st:St) (c:Call):Option FuncId :=
 match c.callee with
 | .value f=>match st.ev f with
  | .i (.c (.v (.func (.func f) p q)))=>if p.size=0/\q.size=0 then some f else none
  | _=>none
 | _=>none
def fE (P:Program) (t:TypeId):Option TI:=((tinfo P t).bind (·.elem)).bind (tinfo P)
def bu (P:Program) (kind:FuncId->CK) (D:Option DI) (o:Oper) (st:St) (δ:Dl):Prop :=
 match o.op with
 | .move x | .assign x=>δ={ v:=st.ev x }
 | .pick c a b=>∃ t:Bool,st.ev c=sc (.bool t)/\δ={ v:=if t then st.ev a else st.ev b }
 | .alloc T=>∃ d ti cs,o.dst=some d/\tinfo P T=some ti/\ti.zero=some cs/\δ={ v := .bp d ((st.b d).gen+1) 0,nb:=some cs }
 | .box _ x=>∃ d y,o.dst=some d/\st.toIV (st.ev x)=some y/\fW D (st.ev x)/\δ={ v := .bp d ((st.b d).gen+1) 0,nb:=some y.cells }
 | .build T ps=>∃ ti z pl l cs,tinfo P T=some ti/\ti.zero=some z/\ti.agg=true/\(match ti.arr with|none=>True|some x=>ps.toList=[]/\∃ te,tinfo P x.2=some te) /\
   eF (fun f=>(tinfo P f.2).map fun t=>(f.1,t.size)) ti.flds=some pl/\st.partCells ps.toList=some l/\(∀ p∈ps.toList,fW D (st.ev p.2)) /\
   mT pl z l=some cs/\δ={ v := .i (.g cs) }
 | .buildSlice T n ps=>∃ ti z l,fE P T=some ti/\ti.zero=some z/\z.length=ti.size/\0<ti.size/\n*ti.size<=2 ^ 24/\st.partCells ps.toList=some l/\(∀ p∈ps.toList,fW D (st.ev p.2)) /\
   (∀ p∈l,p.1<n/\p.2.length=ti.size)/\δ={ v := .fl (l.foldl (fun rs p=>rs.set p.1 p.2) (List.replicate n z)) }
 | .load T x=>∃ ti cs iv,tinfo P T=some ti/\st.cellsOf D (st.ev x) cs/\ldv ti cs=some iv/\δ={ v := .i iv }
 | .nilCheck x=>(match st.ev x with | .bp t g _=>(st.b t).gen=g/\0<g/\okB D t | .ip _=>True|_=>False)/\δ={ v:=st.ev x }
 | .binOp op T x y _=>∃ a b z,(st.ev x).pv=some a/\(st.ev y).pv=some b/\ez P (do eqGuard op T x y a b;binOp op T a b) z/\z.oneCell'=true/\δ={ v:=sc z }
 | .unOp op _ x=>∃ a z,(st.ev x).pv=some a/\ez P (Op.unary op a) z/\z.oneCell'=true/\δ={ v:=sc z }
 | .convert s d x=>∃ a z,(st.ev x).pv=some a/\ez P (convert s d a) z/\z.oneCell'=true/\δ={ v:=sc z }
 | .index T x y=>∃ a b z,(st.ev x).pv=some a/\(st.ev y).pv=some b/\ez P (Instr.index T a b) z/\z.oneCell'=true/\δ={ v:=sc z }
 | .extract x n=>∃ xs y,st.ev x = .tup xs/\xs[n]?=some y/\δ={ v := .i y }
 | .field T x f=>∃ ti tf fd cs iv,tinfo P T=some ti/\ti.flds[f]?=some fd/\tinfo P fd.2=some tf/\st.ev x = .i (.g cs)/\ldv tf (cs.drop fd.1)=some iv/\δ={ v := .i iv }
 | .fieldAddr T x f=>∃ ti tf fd,tinfo P T=some ti/\ti.flds[f]?=some fd/\tinfo P fd.2=some tf/\tf.size≠0 /\
   match st.ev x with
   | .ip cs=>fd.1<=cs.length/\δ={ v := .ip (cs.drop fd.1) }
   | .bp t g off=>(st.b t).gen=g/\0<g/\okB D t/\δ={ v := .bp t g (off+fd.1) }
   | .ep t g i off=>(st.e t).gen=g/\0<g/\okE D t/\δ={ v := .ep t g i (off+fd.1) }
   | _=>False
 | .indexAddr T x y=>∃ ti i,tinfo P T=some ti/\lH (st.ev y) i/\0<=i /\
   match st.ev x with
   | .i (.c (.lst rs)) | .fl rs=>∃ te r,ti.elem.bind (tinfo P)=some te/\rs[i.toNat]?=some r/\r.length=te.size/\δ={ v := .ip r }
   | .sl t g len=>∃ te,ti.elem.bind (tinfo P)=some te/\(st.e t).gen=g/\0<g/\okE D t/\i<len/\te.size=(st.e t).sz/\δ={ v := .ep t g i.toNat 0 }
   | .bp t g off=>∃ n e te,ti.arr=some (n,e)/\tinfo P e=some te/\i<n/\(st.b t).gen=g/\0<g/\okB D t/\δ={ v := .bp t g (off+i.toNat*te.size) }
   | .ip cs=>∃ n e te,ti.arr=some (n,e)/\tinfo P e=some te/\i<n/\i.toNat*te.size<=cs.length/\δ={ v := .ip (cs.drop (i.toNat*te.size)) }
   | _=>False
 | .slice T x lo hi mx=>∃ ti e n l h,tinfo P T=some ti/\ti.elem=some e/\st.len (st.ev x)=some n/\ro D x (st.ev x) /\
   (match lo with|none=>l=0|some y=>lH (st.ev y) (l:Nat))/\(match hi with|none=>h=n|some y=>lH (st.ev y) (h:Nat))/\l<=h/\h<=n /\
   match mx with
   | some y=>hi≠none/\lH (st.ev y) (h:Nat)/\∃ rs te,tinfo P e=some te/\st.ev x = .i (.c (.lst rs))/\(∀ r∈rs,r.length=te.size)/\δ={ v := .fl ((rs.take h).drop l) }
   | none=>match st.ev x with
    | .i (.c (.lst rs))=>(∃ te,tinfo P e=some te/\∀ r∈rs,r.length=te.size)/\δ={ v := .i (.c (.lst ((rs.take h).drop l))) }
    | .fl rs=>(∃ te,tinfo P e=some te/\∀ r∈rs,r.length=te.size)/\δ={ v := .i (.c (.lst ((rs.take h).drop l))) }
    | .sl t g _=>∃ te,tinfo P e=some te/\((l=0/\δ={ v := .sl t g h })\/(l≠0/\l<h/\δ={ v := .sub t g l (h-l) te.size }))
    | _=>False
 | .makeSlice T x y=>∃ d te z n m,o.dst=some d/\fE P T=some te/\te.zero=some z/\z.length=te.size/\lH (st.ev x) (n:Nat)/\lH (st.ev y) (m:Nat)/\n<=m/\m*te.bytes<=2 ^ 47 /\
   m<2 ^ 62/\δ={ v := .sl d ((st.e d).gen+1) n,ne:=some ⟨(st.e d).gen+1,te.size,List.replicate n (mkZ z),true,true⟩ }
 | .call c=>match c.callee with
  | .builtin .len=>∃ x n,c.args.toList=[x]/\st.len (st.ev x)=some n/\fW D (st.ev x)/\((c.argTypes[0]?).bind (tinfo P)).bind (·.elem)≠none/\δ={ v:=sc (.int .i64 n) }
  | .builtin .max=>∃ x y k a b,c.args.toList=[x,y]/\st.ev x=sc (.int k a)/\st.ev y=sc (.int k b)/\δ={ v:=sc (.int k (max a b)) }
  | .builtin .min=>∃ x y k a b,c.args.toList=[x,y]/\st.ev x=sc (.int k a)/\st.ev y=sc (.int k b)/\δ={ v:=sc (.int k (min a b)) }
  | .builtin .append=>∃ d x y t u te xs,o.dst=some d/\c.args.toList=[x,y]/\c.argTypes.toList=[t,u]/\fE P t=some te/\(tinfo P u).bind (·.elem)≠none /\
    st.rows (st.ev y)=some xs/\(∃ z,te.zero=some z/\z.length=te.size)/\0<te.size/\0<te.bytes/\(∀ r∈xs,r.length=te.size)/\nA D (st.ev x).full /\
    match (st.ev x).full with
    | .fl rs=>(∀ r∈rs,r.length=te.size)/\(rs.length+xs.length)*te.bytes<=2 ^ 47 /\
      δ={ v := .sl d ((st.e d).gen+1) (rs.length+xs.length),ne:=some ⟨(st.e d).gen+1,te.size,rs++xs,!xs.isEmpty,true⟩ }
    | .sl t g len=>(st.e t).gen=g/\0<g/\(st.e t).app=true/\len=(st.e t).rs.length/\te.size=(st.e t).sz/\(len+xs.length)*te.bytes<=2 ^ 47/\d≠t /\
      (match st.ev y with | .sl t' _ _=>t'≠t|_=>True) /\
      δ={ v := .sl d ((st.e d).gen+1) (len+xs.length),ne:=some ⟨(st.e d).gen+1,te.size,(st.e t).rs++xs,(st.e t).m || !xs.isEmpty,true⟩,kill:=some t }
    | _=>False
  | .value _=>∃ f args,c8 st c=some f/\eF (fun x=>st.toIV (st.ev x)) c.args.toList=some args/\(∀ x∈c.args.toList,fW D (st.ev x)) /\
    match kind f with
    | .fn=>∃ res,Fn P f args res/\δ={ v:=rv res }
    | .fresh=>∃ d sz rs,o.dst=some d/\c.callee = .value (.func f)/\FnM P f args sz rs/\δ={ v := .sl d ((st.e d).gen+1) rs.length,ne:=some ⟨(st.e d).gen+1,sz,rs,!rs.isEmpty,true⟩ }
    | .sem=>False
  | _=>False
 | _=>False
inductive Key where
 | b (t:Nat)|e (t:Nat)|p (t:Nat)
 deriving DecidableEq
structure Gh where
 A:Nat->Nat
 E:Nat->Option Addr
 cap:Nat->Nat
 Q:Nat->Nat
 own:Nat->Option Key
def Gh.M (G:Gh) (M0:Nat->Prop) (b:Nat):Prop:=M0 b\/G.own b≠none
abbrev qx (x:Option Addr):Option Addr:=x
def mP (of:Option Nat) (b:Nat):Value:=match of with|none => .map (some b)|some _ => .pointer (some ⟨b,0,none⟩)
def eH (w:World) (M:Nat->Prop) (st:St) (G:Gh):AV->Value->Prop
 | .i x,y=>jc w M x y
 | .fl rs,y=>∃ a len,y = .slice a len len/\len=rs.length/\(rs=[]\/∃ b off sz,a=some ⟨b,off,none⟩/\b<w.heap.size/\¬ M b/\aS w M rs b off sz)
 | .ip cs,y=>∃ b off,y = .pointer (some ⟨b,off,none⟩)/\b<w.heap.size/\¬ M b/\br w M cs b off
 | .bp t g off,y=>g<=(st.b t).gen/\((st.b t).gen=g->0<g->y = .pointer (some ⟨G.A t,off,none⟩))
 | .sl t g len,y=>g<=(st.e t).gen/\((st.e t).gen=g->0<g->len<=(st.e t).rs.length/\y = .slice (qx (G.E t)) len (G.cap t))
 | .ep t g idx off,y=>g<=(st.e t).gen/\((st.e t).gen=g->0<g->∃ b o,G.E t=some ⟨b,o,none⟩/\y = .pointer (some ⟨b,o+idx*(st.e t).sz+off,none⟩))
 | .tup xs,y=>∃ ys,y = .tuple ys/\cV w M xs ys.toList
 | .mp t g,y=>g<=(st.p t).gen/\((st.p t).gen=g->0<g->y=mP (st.p t).of (G.Q t))
 | .sub t g lo len sz,y=>g<=(st.e t).gen/\((st.e t).gen=g->0<g->lo+len<=(st.e t).rs.length/\∃ b o c,G.E t=some ⟨b,o,none⟩/\y = .slice (some ⟨b,o+lo*sz,none⟩) len c)
 | .clo f ts,y=>(∀ p∈ts,p.2<=(st.b p.1).gen)/\((∀ p∈ts,(st.b p.1).gen=p.2/\0<p.2)->y = .func (.func f) #[] (ts.map fun p=>Value.pointer (some ⟨G.A p.1,0,none⟩)).toArray)
 | .any,_=>True
def mN (w:World) (M:Nat->Prop) (G:Gh) (t:Nat) (n:EN):Prop :=
 (n.rs=[]\/∃ b o,G.E t=some ⟨b,o,none⟩/\b<w.heap.size/\(n.m=false->¬ M b)/\aS w M n.rs b o n.sz)/\n.rs.length<=G.cap t /\
 (n.m=true->∃ b ys T,G.E t=some ⟨b,0,none⟩/\G.own b=some (.e t)/\w.heap[b]?=some (.cells ys T (0,0))/\ys.size=G.cap t*n.sz) /\
 (n.m=false->n.app=true->G.cap t=n.rs.length)
def bI (w:World) (M:Nat->Prop):List (List C×List C)->List MapEntry->Prop
 | [],[]=>True
 | x::xs,y::ys=>(∃ k v,y.key = .agg k/\y.val = .agg v/\aY w M x.1 k.toList/\aY w M x.2 v.toList)/\bI w M xs ys
 | _,_=>False
def yS (es:Array MapEntry) (clock:Nat):Prop:=(es.toList.map (·.born)).Nodup/\∀ e∈es.toList,e.born<clock
def oN (w:World) (M:Nat->Prop) (G:Gh) (t:Nat) (n:MP):Prop:=G.own (G.Q t)=some (.p t)/\match n.of with
 | none=>∃ es clock,w.heap[G.Q t]?=some (.map es clock)/\yS es clock/\bI w M n.kv es.toList
 | some k=>G.own (G.Q k)=some (.p k)/\∃ es clock seen,w.heap[G.Q k]?=some (.map es clock)/\w.heap[G.Q t]?=some (.mapIter (some (G.Q k)) clock seen clock)/\yS es clock /\
   bI w M n.kv (es.toList.filter fun e => !seen.contains e.born)/\∀ x,n.cur=some x->∃ e∈es.toList,∃ seen':Array Nat,seen=seen'.push e.born/\bI w M [x] [e]
structure cW where
 w:World
 x:Nat->Option Key
 df:List Nat
def cW.Ow (B:cW) (b:Nat):Prop:=B.w.heap.size<=b\/B.x b≠none
structure cW.Bl (B:cW) (w w':World):Prop where
 os:w'.os=w.os
 tape:w'.tape=w.tape
 output:w'.output=w.output
 size:w.heap.size<=w'.heap.size
 drawn:w.drawn<=w'.drawn
 block:∀ k,k<B.w.heap.size->B.x k=none->w'.heap[k]?=w.heap[k]?
theorem cW.Bl.refl (B:cW) (w:World):B.Bl w w:=⟨rfl,rfl,rfl,ay _,ay _,fun _ _ _=>rfl⟩
theorem cW.Bl.trans {B:cW} {a b c:World} (h:B.Bl a b) (k:B.Bl b c):B.Bl a c :=
 ⟨k.os.trans h.os,k.tape.trans h.tape,k.output.trans h.output,ax h.size k.size,ax h.drawn k.drawn,fun i hi hx=>(k.block i hi hx).trans (h.block i hi hx)⟩
theorem cW.Bl.of_below {B:cW} {n:Nat} {w w':World} (h:bq n w w') (hn:B.w.heap.size<=n):B.Bl w w' :=
 ⟨h.os,h.tape,h.output,h.size,h.drawn,fun k hk _=>h.block k (Nat.lt_of_lt_of_le hk hn)⟩
def cW.of (w:World):cW:=⟨w,fun _=>none,[]⟩
theorem cW.Bl.below {w w':World} (h:(cW.of w).Bl w w'):bq w.heap.size w w':=⟨h.os,h.tape,h.output,h.size,h.drawn,fun k hk=>h.block k hk rfl⟩
abbrev mark (b:Nat):Deferred:={ target := .collected b,args := #[] }
def Dq (W0:cW) (M:Nat->Prop) (w:World) (ds:List Deferred):Prop :=
 ds=W0.df.map mark/\W0.df.Nodup/\∀ b∈W0.df,w.heap[b]?=some (.deferred (some []))/\¬ M b/\W0.w.heap.size<=b
theorem Dq.nil {W0:cW} {M:Nat->Prop} {w:World} (h:W0.df=[]):Dq W0 M w []:=⟨by rw[h];rfl,by rw[h];exact List.nodup_nil,by rw[h];exact fun _ h=>nomatch h⟩
theorem Dq.imp {W0:cW} {M M':Nat->Prop} {w w':World} {ds:List Deferred} (h:Dq W0 M w ds) (hk:∀ b,w.heap[b]?=some (.deferred (some []))->¬ M b->w'.heap[b]?=some (.deferred (some []))/\¬ M' b):Dq W0 M' w' ds:=by
 obtain⟨h1,h2,h3⟩:=h;exact⟨h1,h2,fun b hb=>by obtain⟨h4,h5,h6⟩:=h3 b hb;exact⟨(hk b h4 h5).1,(hk b h4 h5).2,h6⟩⟩
structure Sim (W0:cW) (M0:Nat->Prop) (N:Nat) (st:St) (G:Gh) (w:World) (a:Act):Prop where
 m0:∀ b,M0 b->b<W0.w.heap.size/\W0.x b=none
 lkb:∀ b t,W0.x b=some (.b t)->1<=(st.b t).gen/\((st.b t).gen=1->G.A t=b)
 lkp:∀ b t,W0.x b=some (.p t)->1<=(st.p t).gen/\((st.p t).gen=1->G.Q t=b)
 defers:Dq W0 (G.M M0) w a.defers
 size:a.tmps.size=N
 below:W0.Bl W0.w w
 fr:∀ n,eH w (G.M M0) st G (st.t n) (a.tmps.getD n undef)
 bx:∀ t,0<(st.b t).gen->G.own (G.A t)=some (.b t)/\∃ ys T,w.heap[G.A t]?=some (.cells ys T (0,0))/\aY w (G.M M0) (st.b t).cs ys.toList
 en:∀ t,0<(st.e t).gen->mN w (G.M M0) G t (st.e t)
 mp:∀ t,0<(st.p t).gen->oN w (G.M M0) G t (st.p t)
 own:∀ b,G.own b≠none->W0.Ow b/\b<w.heap.size
def qy (P:Program) (o:Oper) (st:St) (K:St->Prop):Prop :=
 ∀(W0:cW) (M0:Nat->Prop) (N:Nat) (G:Gh) (w:World) (a:Act) (Q:Exit->Act->World->Prop),Sim W0 M0 N st G w a->(∀ d,o.dst=some d->d<N) ->
  o.wp P a w (fun a' w'=>∃ st' G',K st'/\Sim W0 M0 N st' G' w' a') Q
def eO (kind:FuncId->CK) (o:Oper):Bool :=
 match o.op with
 | .call { callee := .value (.func f),.. }=>decide (kind f = .sem)
 | .makeMap .. | .lookup .. | .mapUpdate .. | .range .. | .next .. | .entry _ | .makeFunc .. => true
 | .call { callee := .builtin .copy,.. }=>true
 | _=>false
def AOp (P:Program) (kind:FuncId->CK) (D:Option DI) (o:Oper) (K:St->Prop) (st:St):Prop :=
 match o.op with
 | .store T x y=>D=none/\o.dst=none/\∃ ti v,tinfo P T=some ti/\st.toIV (st.ev y)=some v/\v.cells.length=ti.size /\
   match st.ev x with
   | .bp t g off=>(st.b t).gen=g/\0<g/\off+ti.size<=(st.b t).cs.length/\K { st with b:=upd st.b t ⟨g,cJ (st.b t).cs off v.cells⟩ }
   | .ep t g i off=>(st.e t).gen=g/\0<g/\(st.e t).m=true/\∃ r,(st.e t).rs[i]?=some r/\off+ti.size<=r.length /\
     K { st with e:=upd st.e t { st.e t with rs:=(st.e t).rs.set i (cJ r off v.cells) } }
   | _=>False
 | _=>if eO kind o then D=none/\qy P o st K else ∃ δ,bu P kind D o st δ/\K (st.app o.dst δ)
def gd (ops:Array Oper) (st:St) (o:Oper):Option Bool :=
 match o.guard with
 | none=>some true
 | some (j,want)=>match (ops[j]?).bind (·.dst)with
  | some d=>match st.t d with
   | .i (.c (.v (.bool b)))=>some (b == want)
   | .tup []=>some false
   | _=>none
  | none=>none
def jD (P:Program) (kind:FuncId->CK) (D:Option DI) (ops:Array Oper):List Oper->(St->Prop)->St->Prop
 | [],K,st=>K st
 | o::l,K,st=>∃ t,gd ops st o=some t/\(t=true->AOp P kind D o (jD P kind D ops l K) st)/\(t=false->jD P kind D ops l K (st.put o.dst (.tup [])))
def stable (kind:FuncId->CK) (o:Oper):Bool :=
 match o.op with
 | .store .. => false
 | _ => !eO kind o
def a7 (kind:FuncId->CK) (ops:List Oper):Nat:=(ops.takeWhile (stable kind)).length
def ef (kind:FuncId->CK) (o:Oper):Bool :=
 match o.op with
 | .makeSlice .. => true
 | .call { callee := .builtin .append,.. }=>true
 | .call { callee := .value (.func f),.. }=>decide (kind f = .fresh)
 | _=>false
def j8 (kind:FuncId->CK) (o:Oper):Bool :=
 match o.op with
 | .call { callee := .value (.func f),.. }=>decide (kind f = .fresh)
 | _=>false
def su (o:Oper):Bool :=
 match o.op with
 | .alloc _ | .box _ _=>true
 | _=>false
def nQ (kind:FuncId->CK) (ops:List Oper):DI :=
 {al:=(ops.take (a7 kind ops)).filterMap (fun o=>if su o then o.dst else none),eff:=(ops.take (a7 kind ops)).any (ef kind),fr:=(ops.take (a7 kind ops)).all fun o => !ef kind o || j8 kind o }
def Rf (kind:FuncId->CK) (ops:List Oper):List Nat:=(ops.take (a7 kind ops)).filterMap fun o=>if ef kind o then o.dst else none
def diN (kind:FuncId->CK) (ops:List Oper) (b:Bool):DI:={ nQ kind ops with nk:=if b then some (Rf kind ops)else none }
def dM (ops:List Oper) (o:Oper):List Nat :=
 (o.op.operands.toList.filterMap fun | .tmp t=>some t|_=>none) ++
 (match o.guard with|some (j,_)=>((ops[j]?).bind (·.dst)).toList|none=>[])
def befs:List Oper->List Nat->List Nat
 | [],acc=>acc
 | o::l,acc=>befs l (acc++[o.after.toList.foldl (fun s e=>if Region.binds .any e then s ||| 2 ^ e.on ||| acc.getD e.on 0 else s) 0])
def gg (ops:List Oper) (i:Nat):Nat:=(befs ops []).getD i 0
def kW (kind:FuncId->CK) (ops:List Oper):Bool :=
 let k:=a7 kind ops
 let n:=ops.length
 ((List.range n).all fun i=>((ops[i]?).map fun o=>o.after.all fun e => !Region.binds .any e || decide (e.on<i)).getD true) &&
 ((List.range k).all fun i=>(List.range k).all fun j=>decide (i=j) || ((ops[i]?).bind (·.dst)).isNone || decide ((ops[i]?).bind (·.dst)≠(ops[j]?).bind (·.dst))) &&
 ((List.range k).all fun i=>(List.range k).all fun j=>decide (i=j) || ((ops[i]?).map fun o=>((ops[j]?).bind (·.dst)).all fun d => !(dM ops o).contains d ||
   (decide (j<i) && (gg ops i).testBit j) || (decide (i<j) && (gg ops j).testBit i)).getD true) &&
 ((List.range n).all fun j=>decide (j<k) || (List.range j).all fun i=>(gg ops j).testBit i) &&
 ((List.range k).all fun i=>(List.range k).all fun j=>decide (i=j) || !((ops[i]?).map (ef kind)).getD false || !((ops[j]?).map (ef kind)).getD false || ((ops[i]?).map (j8 kind)).getD false && ((ops[j]?).map (j8 kind)).getD false)
inductive bg where
 | normal|exit (id:Nat)|ret
def asg:Code->List Nat
 | .region _ ops _=>ops.toList.filterMap (·.dst)
 | .seq a b=>asg a++asg b
 | .cond _ x y=>asg x++asg y
 | .block _ c | .loop c | .scope c=>asg c
 | .rangeFunc _ ps x y=>ps.toList++asg x++asg y
 | _=>[]
def bz:Exit->Option bg
 | .normal=>some .normal
 | .exit id=>some (.exit id)
 | .ret=>some .ret
 | _=>none
theorem aN {α:Type} (f:Nat->α) (d:Nat) (v:α):upd f d v d=v:=by simp[upd]
theorem aT {α:Type} (f:Nat->α) {d n:Nat} (v:α) (h:n≠d):upd f d v n=f n:=by
 have:Nat.beq n d=false:=by
  cases e:Nat.beq n d with
  | false=>rfl
  | true=>exact absurd (Nat.eq_of_beq_eq_true e) h
 simp[upd,this]
theorem jc.mono {w w':World} {M M':Nat->Prop} (h:bE w M w' M') {x:IV} {y:Value} (hr:jc w M x y):jc w' M' x y:=by
 cases x with
 | c c=>exact cw.mono h c y hr
 | g cs=>obtain⟨ys,e,hc⟩:=hr;exact⟨ys,e,aY.mono h cs _ hc⟩
theorem cV.mono {w w':World} {M M':Nat->Prop} (h:bE w M w' M'):∀{xs:List IV} {ys:List Value},cV w M xs ys->cV w' M' xs ys
 | [],[],_=>trivial
 | _::_,_::_,hr=>⟨hr.1.mono h,cV.mono h hr.2⟩
 | [],_::_,hr=>hr.elim
 | _::_,[],hr=>hr.elim
theorem cV.get {w:World} {M:Nat->Prop}:∀{xs:List IV} {ys:List Value} {n:Nat} {x:IV},cV w M xs ys->xs[n]?=some x->∃ y,ys[n]?=some y/\jc w M x y
 | [],_,_,_,_,h=>by simp at h
 | _::_,y::_,0,_,hr,h=>⟨y,au,by simp at h;subst h;exact hr.1⟩
 | _::_,_::_,n+1,_,hr,h=>by simpa using cV.get hr.2 (n:=n) (by simpa using h)
 | _::_,[],_,_,hr,_=>hr.elim
theorem cV.length {w:World} {M:Nat->Prop}:∀{xs:List IV} {ys:List Value},cV w M xs ys->xs.length=ys.length
 | [],[],_=>rfl
 | _::_,_::_,hr=>by simp[cV.length hr.2]
 | [],_::_,hr=>hr.elim
 | _::_,[],hr=>hr.elim
theorem jc.cells {w:World} {M:Nat->Prop} {x:IV} {y:Value} (h:jc w M x y):aY w M x.cells y.cells.toList:=by
 cases x with
 | c c =>
  have:=cw.oneCell h;rw[rH this];exact⟨h,trivial⟩
 | g cs=>obtain⟨ys,rfl,hc⟩:=h;exact hc
theorem Bp {w:World} {M:Nat->Prop} {x:Value} (h:x.oneCell'=true):cw w M (fK x) x:=by
 unfold fK;split
 ·simp only[cw];exact⟨none,0,0,rfl,rfl,ay _,.inl trivial⟩
 ·simp only[cw];exact⟨trivial,h⟩
theorem fo {w:World} {M:Nat->Prop}:∀{l:List Value},(∀ x∈l,x.oneCell'=true)->aY w M (l.map fK) l
 | [],_=>trivial
 | x::l,h=>⟨Bp (h x au),fo fun y hy=>h y (by simp[hy])⟩
theorem bE.refl (w:World) (M:Nat->Prop):bE w M w M:=⟨ay _,fun _ _ h=>⟨h,rfl⟩⟩
theorem bE.of_below {w w':World} {M:Nat->Prop} (h:bq w.heap.size w w'):bE w M w' M :=
 ⟨h.size,fun b hb hm=>⟨hm,h.block b hb⟩⟩
structure Evo (st:St) (G:Gh) (st':St) (G':Gh):Prop where
 b:∀ t g,g<=(st.b t).gen->g<=(st'.b t).gen/\((st'.b t).gen=g->0<g->(st.b t).gen=g/\G'.A t=G.A t)
 e:∀ t g,g<=(st.e t).gen->g<=(st'.e t).gen/\((st'.e t).gen=g->0<g->(st.e t).gen=g/\G'.E t=G.E t/\G'.cap t=G.cap t/\(st'.e t).sz=(st.e t).sz/\(st.e t).rs.length<=(st'.e t).rs.length)
 p:∀ t g,g<=(st.p t).gen->g<=(st'.p t).gen/\((st'.p t).gen=g->0<g->(st.p t).gen=g/\G'.Q t=G.Q t/\(st'.p t).of=(st.p t).of)
theorem Evo.refl (st:St) (G:Gh):Evo st G st G :=
 ⟨fun _ _ h=>⟨h,fun e _=>⟨e,rfl⟩⟩,fun _ _ h=>⟨h,fun e _=>⟨e,rfl,rfl,rfl,ay _⟩⟩,fun _ _ h=>⟨h,fun e _=>⟨e,rfl,rfl⟩⟩⟩
theorem Evo.of_same {st st':St} {G:Gh} (hb:st'.b=st.b) (he:st'.e=st.e) (hp:st'.p=st.p):Evo st G st' G :=
 ⟨fun _ _ h=>⟨by rw[hb];exact h,fun e _=>⟨by rw[<-hb];exact e,rfl⟩⟩,fun _ _ h=>⟨by rw[he];exact h,fun e _=>⟨by rw[<-he];exact e,rfl,rfl,by rw[he],by rw[he];exact ay _⟩⟩,
  fun _ _ h=>⟨by rw[hp];exact h,fun e _=>⟨by rw[<-hp];exact e,rfl,by rw[hp]⟩⟩⟩
theorem eH.mono {w w':World} {M M':Nat->Prop} {st st':St} {G G':Gh} (h:bE w M w' M') (hE:Evo st G st' G') {v:AV} {y:Value}
  (hr:eH w M st G v y):eH w' M' st' G' v y:=by
 cases v with
 | i x=>exact jc.mono h hr
 | fl rs =>
  obtain⟨a,len,hy,hl,hrs⟩:=hr;refine⟨a,len,hy,hl,?_⟩;rcases hrs with hrs|⟨b,off,sz,ha,hb,hm,hrows⟩
  ·exact .inl hrs
  ·exact .inr ⟨b,off,sz,ha,Nat.lt_of_lt_of_le hb h.1,(h.2 b hb hm).1,aS.mono h (h.2 b hb hm).2 rs off sz hrows⟩
 | ip cs =>
  obtain⟨b,off,hy,hb,hm,hc⟩:=hr;exact⟨b,off,hy,Nat.lt_of_lt_of_le hb h.1,(h.2 b hb hm).1,br.mono h (h.2 b hb hm).2 cs off hc⟩
 | bp t g off =>
  obtain⟨h1,h2⟩:=hE.b t g hr.1;refine⟨h1,fun e pos=>?_⟩;obtain⟨e',ea⟩:=h2 e pos;rw[ea];exact hr.2 e' pos
 | sl t g len =>
  obtain⟨h1,h2⟩:=hE.e t g hr.1;refine⟨h1,fun e pos=>?_⟩;obtain⟨e',ea,ec,_,el⟩:=h2 e pos;rw[ea,ec];exact⟨ax (hr.2 e' pos).1 el,(hr.2 e' pos).2⟩
 | ep t g idx off =>
  obtain⟨h1,h2⟩:=hE.e t g hr.1;refine⟨h1,fun e pos=>?_⟩;obtain⟨e',ea,_,es,_⟩:=h2 e pos;rw[ea,es];exact hr.2 e' pos
 | tup xs=>obtain⟨ys,e,hc⟩:=hr;exact⟨ys,e,cV.mono h hc⟩
 | mp t g =>
  obtain⟨h1,h2⟩:=hE.p t g hr.1;refine⟨h1,fun e pos=>?_⟩;obtain⟨e',ea,eo⟩:=h2 e pos;rw[ea,eo];exact hr.2 e' pos
 | sub t g lo len sz =>
  obtain⟨h1,h2⟩:=hE.e t g hr.1;refine⟨h1,fun e pos=>?_⟩;obtain⟨e',ea,_,_,el⟩:=h2 e pos;rw[ea];exact⟨ax (hr.2 e' pos).1 el,(hr.2 e' pos).2⟩
 | clo f ts =>
  refine⟨fun p hp=>(hE.b p.1 p.2 (hr.1 p hp)).1,fun h=>?_⟩;have h':∀ p∈ts,((st.b p.1).gen=p.2/\0<p.2)/\G'.A p.1=G.A p.1:=fun p hp=>by
   obtain⟨h1,h2⟩:=h p hp;obtain⟨h3,h4⟩:=(hE.b p.1 p.2 (hr.1 p hp)).2 h1 h2;exact⟨⟨h3,h2⟩,h4⟩
  rw[hr.2 fun p hp=>(h' p hp).1];congr 2;exact List.map_congr_left fun p hp=>by rw[(h' p hp).2]
 | any=>trivial
theorem mN.mono {w w':World} {M M':Nat->Prop} {G G':Gh} {t:Nat} {n:EN} (h:bE w M w' M') (hA:G'.E t=G.E t) (hc:G'.cap t=G.cap t)
  (ho:∀ b,G.own b=some (.e t)->G'.own b=some (.e t)/\w'.heap[b]?=w.heap[b]?) (hr:mN w M G t n):mN w' M' G' t n:=by
 obtain⟨h1,h2,h3,h4⟩:=hr;refine⟨?_,by rw[hc];exact h2,?_,by rw[hc];exact h4⟩
 ·rcases h1 with h1|⟨b,o,e1,e2,e3,e4⟩
  ·exact .inl h1
  ·refine .inr ⟨b,o,by rw[hA];exact e1,Nat.lt_of_lt_of_le e2 h.1,fun hm=>(h.2 b e2 (e3 hm)).1,?_⟩;refine aS.mono h ?_ _ _ _ e4;by_cases hm:n.m=true
   ·obtain⟨b',ys,T,f1,f2,_⟩:=h3 hm;have:b=b':=by rw[e1]at f1;simp at f1;exact f1.1
    exact(ho b (this ▸ f2)).2
   ·exact(h.2 b e2 (e3 (by simpa using hm))).2
 ·intro hm;obtain⟨b,ys,T,f1,f2,f3,f4⟩:=h3 hm;exact⟨b,ys,T,by rw[hA];exact f1,(ho b f2).1,by rw[(ho b f2).2];exact f3,by rw[hc];exact f4⟩
theorem bI.mono {w w':World} {M M':Nat->Prop} (h:bE w M w' M'):∀{xs:List (List C×List C)} {ys:List MapEntry},bI w M xs ys->bI w' M' xs ys
 | [],[],_=>trivial
 | _::_,_::_,hr=>by
  obtain⟨⟨k,v,e1,e2,h1,h2⟩,ht⟩:=hr;exact⟨⟨k,v,e1,e2,aY.mono h _ _ h1,aY.mono h _ _ h2⟩,bI.mono h ht⟩
 | [],_::_,hr=>hr.elim
 | _::_,[],hr=>hr.elim
theorem oN.mono {w w':World} {M M':Nat->Prop} {G G':Gh} {t:Nat} {n:MP} (h:bE w M w' M') (hA:∀ k,k=t\/n.of=some k->G'.Q k=G.Q k)
  (ho:∀ b k,k=t\/n.of=some k->G.own b=some (.p k)->G'.own b=some (.p k)/\w'.heap[b]?=w.heap[b]?) (hr:oN w M G t n):oN w' M' G' t n:=by
 obtain⟨h1,h2⟩:=hr;have a1:=hA t (.inl rfl);have o1:=ho _ t (.inl rfl) h1;refine⟨by rw[a1];exact o1.1,?_⟩;cases hof:n.of with
 | none =>
  rw[hof]at h2;obtain⟨es,c,e1,e2,e3⟩:=h2;exact⟨es,c,by rw[a1,o1.2];exact e1,e2,bI.mono h e3⟩
 | some k =>
  rw[hof]at h2;obtain⟨h3,es,c,seen,e1,e2,e3,e4,e5⟩:=h2;have a2:=hA k (.inr hof);have o2:=ho _ k (.inr hof) h3;exact⟨by rw[a2];exact o2.1,es,c,seen,by rw[a2,o2.2];exact e1,by rw[a1,a2,o1.2];exact e2,e3,bI.mono h e4,fun x hx=>by
   obtain⟨e,he,s',hs,hk⟩:=e5 x hx;exact⟨e,he,s',hs,bI.mono h hk⟩⟩
theorem Jj {a:Act} {dst:Option Tmp} {y:Value} {n:Nat} (h:∀ d,dst=some d->d<a.tmps.size) :
  (a.put dst y).tmps.getD n undef=match dst with|some d=>if n=d then y else a.tmps.getD n undef|none=>a.tmps.getD n undef:=by
 cases dst with
 | none=>rfl
 | some d =>
  have hd:=h d rfl;simp only[Act.put,Array.getD_eq_getD_getElem?,Array.getElem?_setIfInBounds];by_cases e:n=d
  ·subst e;simp[hd]
  ·have e':¬ d=n:=fun h=>e h.symm;simp[e,e']
theorem HS {a:Act} {dst:Option Tmp} {y:Value}:(a.put dst y).tmps.size=a.tmps.size:=by
 cases dst<;>simp[Act.put]
theorem CQ {a:Act} {dst:Option Tmp} {y:Value}:(a.put dst y).defers=a.defers:=by
 cases dst<;>simp[Act.put]
section
variable {W0:cW} {M0:Nat->Prop} {N:Nat} {st:St} {G:Gh} {w:World} {a:Act}
theorem Sim.next (S:Sim W0 M0 N st G w a) {st':St} {G':Gh} {w':World} {dst:Option Tmp} {y:Value} {v:AV}
  (hd:∀ d,dst=some d->d<N) (hb:W0.Bl w w') (hk:bE w (G.M M0) w' (G'.M M0)) (hE:Evo st G st' G')
  (ht:∀ n,st'.t n=match dst with|some d=>if n=d then v else st.t n|none=>st.t n) (hv:dst≠none->eH w' (G'.M M0) st' G' v y)
  (bx:∀ t,0<(st'.b t).gen->G'.own (G'.A t)=some (.b t)/\∃ ys T,w'.heap[G'.A t]?=some (.cells ys T (0,0))/\aY w' (G'.M M0) (st'.b t).cs ys.toList)
  (en:∀ t,0<(st'.e t).gen->mN w' (G'.M M0) G' t (st'.e t))
  (mp:∀ t,0<(st'.p t).gen->oN w' (G'.M M0) G' t (st'.p t))
  (own:∀ b,G'.own b≠none->W0.Ow b/\b<w'.heap.size):Sim W0 M0 N st' G' w' (a.put dst y):=by
 refine⟨S.m0,fun b t h=>?_,fun b t h=>?_,?_,?_,S.below.trans hb,?_,bx,en,mp,own⟩
 ·obtain⟨h1,h2⟩:=S.lkb b t h;obtain⟨h3,h4⟩:=hE.b t 1 h1;exact⟨h3,fun e=>(h4 e aw).2.trans (h2 (h4 e aw).1)⟩
 ·obtain⟨h1,h2⟩:=S.lkp b t h;obtain⟨h3,h4⟩:=hE.p t 1 h1;exact⟨h3,fun e=>(h4 e aw).2.1.trans (h2 (h4 e aw).1)⟩
 ·rw[CQ];refine S.defers.imp fun b hb' hm=>?_;have hlt:b<w.heap.size:=(Array.getElem?_eq_some_iff.1 hb').1;exact⟨(hk.2 b hlt hm).2.trans hb',(hk.2 b hlt hm).1⟩
 ·rw[HS];exact S.size
 ·intro n;rw[Jj (fun d h=>by rw[S.size];exact hd d h),ht n];cases dst with
  | none=>exact eH.mono hk hE (S.fr n)
  | some d =>
   simp only;by_cases e:n=d
   ·simp only[e,if_true];exact hv au
   ·simp only[e,if_false];exact eH.mono hk hE (S.fr n)
theorem Sim.le (S:Sim W0 M0 N st G w a):W0.w.heap.size<=w.heap.size:=S.below.size
theorem Sim.bl (S:Sim W0 M0 N st G w a) {w':World} (h:bq w.heap.size w w'):W0.Bl w w' := .of_below h S.le
theorem Sim.not_m0 (S:Sim W0 M0 N st G w a) {b:Nat} (h:W0.Ow b):¬ M0 b:=fun hm=>by
 obtain⟨h1,h2⟩:=S.m0 b hm;rcases h with h|h
 ·omega
 ·exact h h2
theorem Sim.bx_keep (S:Sim W0 M0 N st G w a) {w':World} {G':Gh} {t:Nat} {cs:List C} (hk:bE w (G.M M0) w' (G'.M M0)) (hA:G'.A t=G.A t)
  (ho:∀ b,G.own b=some (.b t)->G'.own b=some (.b t)/\w'.heap[b]?=w.heap[b]?) (hcs:cs=(st.b t).cs) (hg:0<(st.b t).gen) :
  G'.own (G'.A t)=some (.b t)/\∃ ys T,w'.heap[G'.A t]?=some (.cells ys T (0,0))/\aY w' (G'.M M0) cs ys.toList:=by
 obtain⟨h1,ys,T,h2,h3⟩:=S.bx t hg;rw[hA];exact⟨(ho _ h1).1,ys,T,by rw[(ho _ h1).2];exact h2,by rw[hcs];exact aY.mono hk _ _ h3⟩
theorem Sim.mp_keep (S:Sim W0 M0 N st G w a) {w':World} {G':Gh} {t:Nat} {n:MP} (hk:bE w (G.M M0) w' (G'.M M0)) (hA:∀ k,G'.Q k=G.Q k)
  (ho:∀ b k,G.own b=some (.p k)->G'.own b=some (.p k)/\w'.heap[b]?=w.heap[b]?) (hcs:n=st.p t) (hg:0<(st.p t).gen):oN w' (G'.M M0) G' t n:=by
 subst hcs;exact(S.mp t hg).mono hk (fun k _=>hA k) (fun b k _ h=>ho b k h)
theorem Sim.put (S:Sim W0 M0 N st G w a) {w':World} {dst:Option Tmp} {y:Value} {v:AV} (hd:∀ d,dst=some d->d<N) (hb:bq w.heap.size w w')
  (hv:dst≠none->eH w' (G.M M0) st G v y):Sim W0 M0 N (st.put dst v) G w' (a.put dst y):=by
 have hk:bE w (G.M M0) w' (G.M M0):=bE.of_below hb;have ho:∀ b,G.own b≠none->w'.heap[b]?=w.heap[b]?:=fun b h=>hb.block b (S.own b h).2;have e1:(st.put dst v).b=st.b:=by cases dst<;>rfl
 have e2:(st.put dst v).e=st.e:=by cases dst<;>rfl
 have e3:(st.put dst v).p=st.p:=by cases dst<;>rfl
 have hE:Evo st G (st.put dst v) G:=Evo.of_same e1 e2 e3;refine S.next (v:=v) hd (S.bl hb) hk hE ?_ (fun h=>(hv h).mono (bE.refl _ _) hE) ?_ ?_ ?_ ?_
 ·intro n;cases dst with
  | none=>rfl
  | some d =>
   simp only[St.put];by_cases e:n=d
   ·subst e;simp[aN]
   ·simp[aT _ _ e,e]
 ·intro t ht;rw[e1]at ht ⊢;exact S.bx_keep hk rfl (fun b h=>⟨h,ho b (by simp[h])⟩) rfl ht
 ·intro t ht;rw[e2]at ht ⊢;exact(S.en t ht).mono hk rfl rfl (fun b h=>⟨h,ho b (by simp[h])⟩)
 ·intro t ht;rw[e3]at ht ⊢;exact S.mp_keep hk (fun _=>rfl) (fun b _ h=>⟨h,ho b (by simp[h])⟩) rfl ht
 ·intro b h;exact⟨(S.own b h).1,Nat.lt_of_lt_of_le (S.own b h).2 hb.size⟩
end
section
variable {W0:cW} {M0:Nat->Prop} {N:Nat} {st:St} {G:Gh} {w:World} {a:Act}
theorem oq {w':World} {G':Gh} (hb:bq w.heap.size w w') (ho:∀ b,b<w.heap.size->G'.own b=G.own b):bE w (G.M M0) w' (G'.M M0) :=
 ⟨hb.size,fun b h hm=>⟨by unfold Gh.M at hm ⊢;rw[ho b h];exact hm,hb.block b h⟩⟩
theorem Sim.newBox (S:Sim W0 M0 N st G w a) {w':World} {d B:Nat} {cs:List C} {ys:Array Value} {T:TypeId} (hd:d<N) (hb:bq w.heap.size w w')
  (hB:w.heap.size<=B) (hB':B<w'.heap.size) (hy:w'.heap[B]?=some (.cells ys T (0,0))) (hc:aY w (G.M M0) cs ys.toList) {ne kill} :
  Sim W0 M0 N (st.app (some d) { v := .bp d ((st.b d).gen+1) 0,nb:=some cs,ne:=ne,kill:=kill })
   {G with A:=upd G.A d B,own:=upd G.own B (some (.b d)) } w' (a.put (some d) (.pointer (some ⟨B,0,none⟩)))\/ne≠none:=by
 by_cases hne:ne=none
 case neg=>exact .inr hne
 subst hne;left;have hown:∀ b,b<w.heap.size->(upd G.own B (some (.b d))) b=G.own b:=fun b h=>aT _ _ aw;have hk:bE w (G.M M0) w' (({ G with A:=upd G.A d B,own:=upd G.own B (some (.b d)) }:Gh).M M0):=oq hb hown
 have ho:∀ b k,G.own b=some k->(upd G.own B (some (.b d))) b=some k/\w'.heap[b]?=w.heap[b]?:=fun b k h =>
  have hl:=(S.own b (by simp[h])).2
  ⟨(hown b hl).trans h,hb.block b hl⟩
 have hE:Evo st G (st.app (some d) { v := .bp d ((st.b d).gen+1) 0,nb:=some cs,ne:=none,kill:=kill }) { G with A:=upd G.A d B,own:=upd G.own B (some (.b d)) }:=by
  refine⟨fun t g h=>?_,fun _ _ h=>⟨h,fun e _=>⟨e,rfl,rfl,rfl,ay _⟩⟩,fun _ _ h=>⟨h,fun e _=>⟨e,rfl,rfl⟩⟩⟩;by_cases e:t=d
  ·subst e;simp only[St.app,aN];exact⟨aw,fun h' _=>by omega⟩
  ·simp only[St.app,aT _ _ e];exact⟨h,fun e' _=>⟨e',trivial⟩⟩
 refine S.next (v := .bp d ((st.b d).gen+1) 0) (fun x h=>by cases h;exact hd) (S.bl hb) hk hE ?_ ?_ ?_ ?_ ?_ ?_
 ·intro n;simp only[St.app];by_cases e:n=d
  ·subst e;simp[aN]
  ·simp[aT _ _ e,e]
 ·intro _;simp only[eH,St.app,aN];exact⟨ay _,fun _ _=>trivial⟩
 ·intro t ht;by_cases e:t=d
  ·subst e;simp only[St.app,aN];exact⟨trivial,ys,T,hy,aY.mono hk _ _ hc⟩
  ·simp only[St.app,aT _ _ e]at ht;exact S.bx_keep hk (by simp only[aT _ _ e]) (fun b h=>ho b _ h) (by simp only[St.app,aT _ _ e]) ht
 ·intro t ht;exact mN.mono (G:=G) hk rfl rfl (fun b h=>ho b _ h) (S.en t ht)
 ·intro t ht;exact S.mp_keep hk (fun _=>rfl) (fun b _ h=>ho b _ h) rfl ht
 ·intro b h;by_cases e:b=B
  ·subst e;exact⟨.inl (ax S.le hB),hB'⟩
  ·simp only[aT _ _ e]at h;exact⟨(S.own b h).1,Nat.lt_of_lt_of_le (S.own b h).2 hb.size⟩
theorem Sim.newEn (S:Sim W0 M0 N st G w a) {w':World} {d:Nat} {n:EN} {E:Option Addr} {cap len:Nat} {own':Nat->Option Key} {kill:Option Nat}
  (hd:d<N) (hlen:len<=n.rs.length) (hb:bq w.heap.size w w') (hgen:n.gen=(st.e d).gen+1) (hown:∀ b,b<w.heap.size->own' b=G.own b)
  (hown':∀ b,own' b≠none->W0.Ow b/\b<w'.heap.size)
  (hen:mN w' (({ G with E:=upd G.E d E,cap:=upd G.cap d cap,own:=own' }:Gh).M M0) { G with E:=upd G.E d E,cap:=upd G.cap d cap,own:=own' } d n) :
  Sim W0 M0 N (st.app (some d) { v := .sl d ((st.e d).gen+1) len,ne:=some n,kill:=kill })
   {G with E:=upd G.E d E,cap:=upd G.cap d cap,own:=own' } w' (a.put (some d) (.slice (qx E) len cap)):=by
 have hk:bE w (G.M M0) w' (({ G with E:=upd G.E d E,cap:=upd G.cap d cap,own:=own' }:Gh).M M0):=oq hb hown
 have ho:∀ b k,G.own b=some k->own' b=some k/\w'.heap[b]?=w.heap[b]?:=fun b k h =>
  have hl:=(S.own b (by simp[h])).2
  ⟨(hown b hl).trans h,hb.block b hl⟩
 have hE:Evo st G (st.app (some d) { v := .sl d ((st.e d).gen+1) len,ne:=some n,kill:=kill }) { G with E:=upd G.E d E,cap:=upd G.cap d cap,own:=own' }:=by
  refine⟨fun _ _ h=>⟨h,fun e _=>⟨e,rfl⟩⟩,fun t g h=>?_,fun _ _ h=>⟨h,fun e _=>⟨e,rfl,rfl⟩⟩⟩;by_cases e:t=d
  ·subst e;simp only[St.app,aN];exact⟨aw,fun h' _=>by omega⟩
  ·simp only[St.app,aT _ _ e];cases kill with
   | none=>exact⟨h,fun e' _=>⟨e',trivial,trivial,rfl,ay _⟩⟩
   | some k =>
    by_cases e2:t=k
    ·subst e2;simp only[aN];exact⟨aw,fun h' _=>by omega⟩
    ·simp only[aT _ _ e2];exact⟨h,fun e' _=>⟨e',trivial,trivial,trivial,ay _⟩⟩
 refine S.next (v := .sl d ((st.e d).gen+1) len) (fun x h=>by cases h;exact hd) (S.bl hb) hk hE ?_ ?_ ?_ ?_ ?_ ?_
 ·intro n;simp only[St.app];by_cases e:n=d
  ·subst e;simp[aN]
  ·simp[aT _ _ e,e]
 ·intro _;simp only[eH,St.app,aN,hgen];exact⟨ay _,fun _ _=>⟨hlen,trivial⟩⟩
 ·intro t ht;exact S.bx_keep hk rfl (fun b h=>ho b _ h) rfl ht
 ·intro t ht;by_cases e:t=d
  ·subst e;simp only[St.app,aN];exact hen
  ·simp only[St.app,aT _ _ e]at ht ⊢;cases kill with
   | none=>exact(S.en t ht).mono hk (aT _ _ e) (aT _ _ e) (fun b h=>ho b _ h)
   | some k =>
    by_cases e2:t=k
    ·subst e2;simp only[aN]at ht ⊢;exact⟨.inl rfl,Nat.zero_le _,fun h=>by simp at h,fun _ h=>by simp at h⟩
    ·simp only[aT _ _ e2]at ht ⊢;exact(S.en t ht).mono hk (aT _ _ e) (aT _ _ e) (fun b h=>ho b _ h)
 ·intro t ht;exact S.mp_keep hk (fun _=>rfl) (fun b _ h=>ho b _ h) rfl ht
 ·exact hown'
theorem dI {w:World} {B b:Nat} {c:Array Value} (h:b≠B):(w.setRow B c).heap[b]?=w.heap[b]?:=by
 unfold World.setRow;simp only[Array.getElem?_modify];rw[if_neg (fun e=>h e.symm)]
theorem dD {w:World} {B:Nat} {c:Array Value}:(w.setRow B c).heap.size=w.heap.size:=by
 unfold World.setRow;simp
theorem cW.Bl.setRow {B:cW} {w:World} {b:Nat} {c:Array Value} (h:B.Ow b):B.Bl w (w.setRow b c) :=
 ⟨rfl,rfl,rfl,by rw[dD];exact ay _,ay _,fun k hk hx=>dI (fun e=>by subst e;rcases h with h|h;omega;exact h hx)⟩
theorem my {B:Nat} {c:Array Value} {k:Key} (h:G.own B=some k):bE w (G.M M0) (w.setRow B c) (G.M M0) :=
 ⟨by rw[dD];exact ay _,fun b _ hm=>⟨hm,dI (fun e=>hm (.inr (by subst e;simp[h])))⟩⟩
theorem jC {M:Nat->Prop} {cs xs:List C} {ys zs:List Value} {off:Nat} (h:aY w M cs ys) (h':aY w M xs zs) :
  aY w M (cJ cs off xs) (ys.take off++zs++ys.drop (off+zs.length)):=by
 unfold cJ;rw[<-h'.length];exact((h.take off).append h').append (h.drop _)
theorem Sim.setBox (S:Sim W0 M0 N st G w a) {t off:Nat} {xs:List C} {zs:List Value} (hg:0<(st.b t).gen) (hx:aY w (G.M M0) xs zs)
  {ys:Array Value} {T:TypeId} (hy:w.heap[G.A t]?=some (.cells ys T (0,0))) :
  Sim W0 M0 N { st with b:=upd st.b t ⟨(st.b t).gen,cJ (st.b t).cs off xs⟩ } G (w.setRow (G.A t) (ys.toList.take off++zs++ys.toList.drop (off+zs.length)).toArray) a:=by
 obtain⟨h1,ys',T',h2,h3⟩:=S.bx t hg;obtain⟨rfl,rfl⟩:ys=ys'/\T=T':=by rw[hy]at h2;simp at h2;exact h2
 have hk:bE w (G.M M0) (w.setRow (G.A t) (ys.toList.take off++zs++ys.toList.drop (off+zs.length)).toArray) (G.M M0):=my h1;have ho:∀ b k,k ≠ .b t->G.own b=some k->G.own b=some k/\(w.setRow (G.A t) (ys.toList.take off++zs++ys.toList.drop (off+zs.length)).toArray).heap[b]?=w.heap[b]? :=
  fun b k hne h=>⟨h,dI (fun e=>hne (by subst e;rw[h1]at h;exact(Option.some.inj h).symm))⟩
 have hE:Evo st G { st with b:=upd st.b t ⟨(st.b t).gen,cJ (st.b t).cs off xs⟩ } G:=by
  refine⟨fun t' g h=>?_,fun _ _ h=>⟨h,fun e _=>⟨e,rfl,rfl,rfl,ay _⟩⟩,fun _ _ h=>⟨h,fun e _=>⟨e,rfl,rfl⟩⟩⟩;by_cases e:t'=t
  ·subst e;simp only[aN];exact⟨h,fun e _=>⟨e,trivial⟩⟩
  ·simp only[aT _ _ e];exact⟨h,fun e _=>⟨e,trivial⟩⟩
 have hge:W0.Ow (G.A t):=(S.own _ (by simp[h1])).1;refine S.next (dst:=none) (y:=undef) (v := .any) (fun _ h=>by cases h) (.setRow hge) hk hE (fun _=>rfl) (fun h=>(h rfl).elim) ?_ ?_ ?_ ?_
 ·intro t' ht';by_cases e:t'=t
  ·subst e;simp only[aN];refine⟨h1,_,T,setRow_heap w _ ys _ T _ hy,?_⟩;exact aY.mono hk _ _ (by simpa using jC h3 hx)
  ·simp only[aT _ _ e]at ht';exact S.bx_keep hk rfl (fun b h=>ho b _ (by simpa using e) h) (by simp only[aT _ _ e]) ht'
 ·intro t' ht';exact(S.en t' ht').mono hk rfl rfl (fun b h=>ho b _ au h)
 ·intro t' ht';exact S.mp_keep hk (fun _=>rfl) (fun b _ h=>ho b _ au h) rfl ht'
 ·intro b h;rw[dD];exact S.own b h
theorem bR {b i:Nat} {ys:Array Value} {T:TypeId} {f:Nat×Nat} (h:w.heap[b]?=some (.cells ys T f)):w.cell? ⟨b,i,none⟩=ys[i]?:=by
 simp[World.cell?,h]
theorem aS.set {M:Nat->Prop} {w':World} {b off sz i o:Nat} {rs:List (List C)} {r xs:List C} {zs:List Value} (h:aS w M rs b off sz) (hi:rs[i]?=some r)
  (hx:aY w' M xs zs) (hle:o+xs.length<=r.length) (hk:bE w M w' M)
  (hin:∀ j,j<zs.length->w'.cell? ⟨b,off+i*sz+o+j,none⟩=zs[j]?) (hout:∀ k,(k<off+i*sz+o\/off+i*sz+o+zs.length<=k)->w'.cell? ⟨b,k,none⟩=w.cell? ⟨b,k,none⟩) :
  aS w' M (rs.set i (cJ r o xs)) b off sz:=by
 have hxl:=hx.length;obtain⟨hr,_⟩:=h.get hi;refine aS.of_get fun j r' hj=>?_;have hlen:(cJ r o xs).length=r.length:=by simp[cJ];omega
 by_cases e:i=j
 ·subst e;have hil:i<rs.length:=by
   rcases Nat.lt_or_ge i rs.length with h'|h'
   ·exact h'
   ·rw[List.getElem?_eq_none h']at hi;simp at hi
  rw[List.getElem?_set_self hil]at hj;simp at hj;subst hj;refine⟨by rw[hlen];exact hr,?_⟩;obtain⟨_,hcells⟩:=h.get hi;obtain⟨ys,hys,hcell⟩:=hcells.reps;have hyl:=hys.length;refine br.of_reps (ys:=ys.take o++zs++ys.drop (o+zs.length)) ?_ ?_
  ·have:=jC (off:=o) (aY.mono hk _ _ hys) hx;exact this
  ·intro k hk';rw[hlen]at hk';by_cases h1:k<o
   ·rw[hout _ (.inl aw),hcell k hk',List.append_assoc,List.getElem?_append_left ar];simp[h1]
   ·by_cases h2:k<o+zs.length
    ·have:=hin (k-o) aw;rw[show off+i*sz+o+(k-o)=off+i*sz+k from by omega]at this;rw[this,List.append_assoc,List.getElem?_append_right ar,List.getElem?_append_left ar];simp;congr 1;omega
    ·rw[hout _ (.inr aw),hcell k hk',List.getElem?_append_right ar,List.getElem?_drop];simp;congr 1;omega
 ·rw[List.getElem?_set_ne e]at hj;obtain⟨h1,h2⟩:=h.get hj;refine⟨h1,?_⟩;obtain⟨ys,hys,hcell⟩:=h2.reps;refine br.of_reps (aY.mono hk _ _ hys) fun k hk'=>?_;rw[hout,hcell k hk'];rw[h1]at hk';rcases Nat.lt_or_gt_of_ne e with e|e
  ·right;have:(i+1)*sz<=j*sz:=Nat.mul_le_mul_right sz e;rw[Nat.add_mul]at this;omega
  ·left;have:(j+1)*sz<=i*sz:=Nat.mul_le_mul_right sz e;rw[Nat.add_mul]at this;omega
end
theorem aS.flat {w:World} {M:Nat->Prop} {b sz:Nat}:∀{rs:List (List C)} {off:Nat},aS w M rs b off sz ->
  ∃ zs,aY w M rs.flatten zs/\zs.length=rs.length*sz/\∀ j,j<zs.length->w.cell? ⟨b,off+j,none⟩=zs[j]?
 | [],off,_=>⟨[],trivial,au,au⟩
 | r::rs,off,h=>by
  simp only[aS]at h;obtain⟨ys,h1,h2⟩:=h.2.1.reps;obtain⟨zs,h3,h4,h5⟩:=aS.flat h.2.2;have hl:=h1.length;refine⟨ys++zs,by simpa using h1.append h3,?_,?_⟩
  ·simp[h4,<-hl,h.1,Nat.add_mul];omega
  ·intro j hj;by_cases e:j<ys.length
   ·rw[List.getElem?_append_left e];exact h2 j aw
   ·rw[List.getElem?_append_right aw,<-h5 (j-ys.length) (by simp at hj;omega)];congr 2;omega
theorem aS.of_flat {w:World} {M:Nat->Prop} {b sz:Nat}:∀{rs:List (List C)} {off:Nat} {zs:List Value},(∀ r∈rs,r.length=sz)->aY w M rs.flatten zs ->
  (∀ j,j<zs.length->w.cell? ⟨b,off+j,none⟩=zs[j]?)->aS w M rs b off sz
 | [],_,_,_,_,_=>by simp only[aS]
 | r::rs,off,zs,h,hc,hz=>by
  simp only[aS];have hr:r.length=sz:=h r au;have hl:=hc.length;simp only[List.flatten_cons,List.length_append]at hl;have h1:=hc.take sz;have h2:=hc.drop sz;simp only[List.flatten_cons,<-hr,List.take_left',List.drop_left']at h1 h2;refine⟨hr,br.of_reps h1 fun i hi=>?_,aS.of_flat (fun x hx=>h x (by simp[hx])) h2 fun j hj=>?_⟩
  ·rw[List.getElem?_take_of_lt aw];exact hz i aw
  ·simp only[List.length_drop]at hj;rw[List.getElem?_drop,<-hr,<-hz _ aw];congr 2;omega
theorem cy {α:Type} {sz:Nat}:∀{rs:List (List α)},(∀ r∈rs,r.length=sz)->rs.flatten.length=rs.length*sz
 | [],_=>by simp
 | r::rs,h=>by simp[h r au,cy fun x hx=>h x (List.mem_cons_of_mem _ hx),Nat.add_mul];omega
theorem aS.lens {w:World} {M:Nat->Prop} {b off sz:Nat} {rs:List (List C)} (h:aS w M rs b off sz):∀ r∈rs,r.length=sz:=by
 intro r hr;obtain⟨i,hi⟩:=List.getElem?_of_mem hr;exact(h.get hi).1
section
variable {W0:cW} {M0:Nat->Prop} {N:Nat} {st:St} {G:Gh} {w:World} {a:Act}
theorem Sim.setEn (S:Sim W0 M0 N st G w a) {t i o b:Nat} {r xs:List C} {zs:List Value} {ys:Array Value} {T:TypeId} (hg:0<(st.e t).gen) (hm:(st.e t).m=true)
  (hi:(st.e t).rs[i]?=some r) (hx:aY w (G.M M0) xs zs) (hle:o+xs.length<=r.length) (hE0:G.E t=some ⟨b,0,none⟩) (hy:w.heap[b]?=some (.cells ys T (0,0))) :
  i*(st.e t).sz+o+zs.length<=ys.size /\
  Sim W0 M0 N { st with e:=upd st.e t { st.e t with rs:=(st.e t).rs.set i (cJ r o xs) } } G
   (w.setRow b (ys.toList.take (i*(st.e t).sz+o)++zs++ys.toList.drop (i*(st.e t).sz+o+zs.length)).toArray) a:=by
 have hen:=S.en t hg;obtain⟨h1,h2,h3,h4⟩:=hen;obtain⟨b',ys',T',f1,f2,f3,f4⟩:=h3 hm;obtain rfl:b=b':=by rw[hE0]at f1;simp at f1;exact f1
 obtain⟨rfl,rfl⟩:ys=ys'/\T=T':=by rw[hy]at f3;simp at f3;exact f3
 have hil:i<(st.e t).rs.length:=by
  rcases Nat.lt_or_ge i (st.e t).rs.length with h'|h'
  ·exact h'
  ·rw[List.getElem?_eq_none h']at hi;simp at hi
 obtain⟨_,hrows⟩:b<w.heap.size/\aS w (G.M M0) (st.e t).rs b 0 (st.e t).sz:=by
  rcases h1 with h1|⟨b',o',e1,e2,_,e4⟩
  ·rw[h1]at hil;simp at hil
  ·obtain⟨rfl,rfl⟩:b=b'/\0=o':=by rw[hE0]at e1;simp at e1;exact e1
   exact⟨e2,e4⟩
 have hxl:=hx.length;have hrl:=(hrows.get hi).1;have hfit:i*(st.e t).sz+o+zs.length<=ys.size:=by
  have:(i+1)*(st.e t).sz<=G.cap t*(st.e t).sz:=Nat.mul_le_mul_right _ aw;rw[Nat.add_mul]at this;omega
 refine⟨hfit,?_⟩;have hk:=my (M0:=M0) (w:=w) (c:=(ys.toList.take (i*(st.e t).sz+o)++zs++ys.toList.drop (i*(st.e t).sz+o+zs.length)).toArray) f2;have ho:∀ b' k,k ≠ .e t->G.own b'=some k->G.own b'=some k/\(w.setRow b (ys.toList.take (i*(st.e t).sz+o)++zs++ys.toList.drop (i*(st.e t).sz+o+zs.length)).toArray).heap[b']?=w.heap[b']? :=
  fun b' k hne h=>⟨h,dI (fun e=>hne (by subst e;rw[f2]at h;exact(Option.some.inj h).symm))⟩
 have hE:Evo st G { st with e:=upd st.e t { st.e t with rs:=(st.e t).rs.set i (cJ r o xs) } } G:=by
  refine⟨fun _ _ h=>⟨h,fun e _=>⟨e,rfl⟩⟩,fun t' g h=>?_,fun _ _ h=>⟨h,fun e _=>⟨e,rfl,rfl⟩⟩⟩;by_cases e:t'=t
  ·subst e;simp only[aN];exact⟨h,fun e _=>⟨e,trivial,trivial,trivial,au⟩⟩
  ·simp only[aT _ _ e];exact⟨h,fun e _=>⟨e,trivial,trivial,trivial,au⟩⟩
 have hge:W0.Ow b:=(S.own _ (by simp[f2])).1;have hnew:=setRow_heap w b ys (ys.toList.take (i*(st.e t).sz+o)++zs++ys.toList.drop (i*(st.e t).sz+o+zs.length)).toArray T _ hy;refine S.next (dst:=none) (y:=undef) (v := .any) (fun _ h=>by cases h) (.setRow hge) hk hE (fun _=>rfl) (fun h=>(h rfl).elim) ?_ ?_ ?_ ?_
 ·intro t' ht';exact S.bx_keep hk rfl (fun b h=>ho b _ au h) rfl ht'
 ·intro t' ht';by_cases e:t'=t
  ·subst e;simp only[aN];refine⟨.inr ⟨b,0,hE0,by rw[dD];exact(S.own _ (by simp[f2])).2,fun h=>by rw[hm]at h;simp at h,?_⟩,by simpa using h2,fun _=>⟨b,_,T,hE0,f2,hnew,?_⟩,fun h=>by rw[hm]at h;simp at h⟩
   ·refine aS.set hrows hi (aY.mono hk _ _ hx) hle hk ?_ ?_
    ·intro j hj;rw[bR hnew];simp only[List.getElem?_toArray];rw[List.append_assoc,List.getElem?_append_right ar,List.getElem?_append_left ar];simp;congr 1;omega
    ·intro k hk';dsimp only at hk';rw[bR hnew,bR hy];simp only[List.getElem?_toArray];rcases hk' with hk'|hk'
     ·rw[List.append_assoc,List.getElem?_append_left ar];rw[List.getElem?_take,if_pos aw];simp
     ·rw[List.getElem?_append_right ar,List.getElem?_drop];simp;congr 1;omega
   ·simp;omega
  ·simp only[aT _ _ e]at ht' ⊢;exact mN.mono (G:=G) hk rfl rfl (fun b h=>ho b _ (by simpa using e) h) (S.en t' ht')
 ·intro t' ht';exact S.mp_keep hk (fun _=>rfl) (fun b _ h=>ho b _ au h) rfl ht'
 ·intro b' h;rw[dD];exact S.own b' h
theorem Sim.growEn (S:Sim W0 M0 N st G w a) {t d b:Nat} {xs:List (List C)} {zs:List Value} {ys:Array Value} {T:TypeId} {app:Bool} (hd:d<N) (hdt:d≠t) (hg:0<(st.e t).gen) (hm:(st.e t).m=true)
  (hx:aY w (G.M M0) xs.flatten zs) (hxs:∀ r∈xs,r.length=(st.e t).sz) (hE0:G.E t=some ⟨b,0,none⟩) (hy:w.heap[b]?=some (.cells ys T (0,0)))
  (hfit:(st.e t).rs.length+xs.length<=G.cap t) :
  Sim W0 M0 N (st.app (some d) { v := .sl d ((st.e d).gen+1) ((st.e t).rs.length+xs.length),ne:=some ⟨(st.e d).gen+1,(st.e t).sz,(st.e t).rs++xs,true,app⟩,kill:=some t })
   {G with E:=upd G.E d (some ⟨b,0,none⟩),cap:=upd G.cap d (G.cap t),own:=upd G.own b (some (.e d)) }
   (w.setRow b (ys.toList.take ((st.e t).rs.length*(st.e t).sz)++zs++ys.toList.drop ((st.e t).rs.length*(st.e t).sz+zs.length)).toArray)
   (a.put (some d) (.slice (some ⟨b,0,none⟩) ((st.e t).rs.length+xs.length) (G.cap t))):=by
 obtain⟨h1,h2,h3,h4⟩:=S.en t hg;obtain⟨b',ys',T',f1,f2,f3,f4⟩:=h3 hm;obtain rfl:b=b':=by rw[hE0]at f1;simp at f1;exact f1
 obtain⟨rfl,rfl⟩:ys=ys'/\T=T':=by rw[hy]at f3;simp at f3;exact f3
 have hbl:=(S.own b (by simp[f2])).2;have hge:W0.Ow b:=(S.own _ (by simp[f2])).1;have hxl:=hx.length;rw[cy hxs]at hxl;have hrows:aS w (G.M M0) (st.e t).rs b 0 (st.e t).sz:=by
  rcases h1 with h1|⟨b',o',e1,e2,_,e4⟩
  ·rw[h1];simp only[aS]
  ·obtain⟨rfl,rfl⟩:b=b'/\0=o':=by rw[hE0]at e1;simp at e1;exact e1
   exact e4
 generalize hn:(st.e t).rs.length=n at *
 generalize hs:(st.e t).sz=sz at *
 have hsz:n*sz+zs.length<=ys.size:=by
  rw[<-hxl,f4,<-Nat.add_mul];exact Nat.mul_le_mul_right _ hfit
 have hnew:=setRow_heap w b ys (ys.toList.take (n*sz)++zs++ys.toList.drop (n*sz+zs.length)).toArray T _ hy;generalize hw':w.setRow b (ys.toList.take (n*sz)++zs++ys.toList.drop (n*sz+zs.length)).toArray=w' at *
 have hne:∀ b',b'≠b->w'.heap[b']?=w.heap[b']?:=fun b' h=>by rw[<-hw'];exact dI h
 have hsz':w'.heap.size=w.heap.size:=by rw[<-hw',dD]
 have hk:bE w (G.M M0) w' (({ G with E:=upd G.E d (some ⟨b,0,none⟩),cap:=upd G.cap d (G.cap t),own:=upd G.own b (some (.e d)) }:Gh).M M0):=by
  refine⟨aw,fun b' _ hm'=>?_⟩;have hbb:b'≠b:=fun e=>hm' (.inr (by subst e;simp[f2]));refine⟨?_,hne b' hbb⟩;unfold Gh.M at hm' ⊢;simp only[aT _ _ hbb];exact hm'
 have ho:∀ b' k,k ≠ .e t->G.own b'=some k->(upd G.own b (some (.e d))) b'=some k/\w'.heap[b']?=w.heap[b']?:=fun b' k hne' h=>by
  have hbb:b'≠b:=fun e=>hne' (by subst e;rw[f2]at h;exact(Option.some.inj h).symm);exact⟨by rw[aT _ _ hbb];exact h,hne b' hbb⟩
 have hE:Evo st G (st.app (some d) { v := .sl d ((st.e d).gen+1) (n+xs.length),ne:=some ⟨(st.e d).gen+1,sz,(st.e t).rs++xs,true,app⟩,kill:=some t }) { G with E:=upd G.E d (some ⟨b,0,none⟩),cap:=upd G.cap d (G.cap t),own:=upd G.own b (some (.e d)) }:=by
  refine⟨fun _ _ h=>⟨h,fun e _=>⟨e,rfl⟩⟩,fun t' g h=>?_,fun _ _ h=>⟨h,fun e _=>⟨e,rfl,rfl⟩⟩⟩;by_cases e:t'=d
  ·subst e;simp only[St.app,aN];exact⟨aw,fun h' _=>by omega⟩
  ·simp only[St.app,aT _ _ e];by_cases e2:t'=t
   ·subst e2;simp only[aN];exact⟨aw,fun h' _=>by omega⟩
   ·simp only[aT _ _ e2];exact⟨h,fun e' _=>⟨e',trivial,trivial,trivial,ay _⟩⟩
 refine S.next (v := .sl d ((st.e d).gen+1) (n+xs.length)) (fun x h=>by cases h;exact hd) (hw' ▸ .setRow hge) hk hE ?_ ?_ ?_ ?_ ?_ ?_
 ·intro n;simp only[St.app];by_cases e:n=d
  ·subst e;simp[aN]
  ·simp[aT _ _ e,e]
 ·intro _;simp only[eH,St.app,aN];exact⟨ay _,fun _ _=>⟨by simp[hn],trivial⟩⟩
 ·intro t' ht';exact S.bx_keep hk rfl (fun b h=>ho b _ au h) rfl ht'
 ·intro t' ht';by_cases e:t'=d
  ·subst e;simp only[St.app,aN];refine⟨.inr ⟨b,0,by simp[aN],aw,fun h=>by simp at h,?_⟩,by simpa [aN,hn]using hfit,fun _=>⟨b,_,T,by simp[aN],by simp[aN],hnew,?_⟩,fun h=>by simp at h⟩
   ·refine aS.append ?_ ?_
    ·obtain⟨vs,g1,g2,g3⟩:=hrows.flat;refine aS.of_flat hrows.lens (aY.mono hk _ _ g1) fun j hj=>?_;rw[<-g3 j hj,bR hnew,bR hy];have:j<n*sz:=by rw[g2,hn]at hj;exact hj
     simp only[Nat.zero_add,List.getElem?_toArray];rw[List.append_assoc,List.getElem?_append_left ar];simp[this]
    ·refine aS.of_flat hxs (aY.mono hk _ _ hx) fun j hj=>?_;rw[bR hnew,hn];simp only[List.getElem?_toArray];rw[List.append_assoc,List.getElem?_append_right ar,List.getElem?_append_left ar];simp;congr 1;omega
   ·simp[aN];omega
  ·simp only[St.app,aT _ _ e]at ht' ⊢;by_cases e2:t'=t
   ·subst e2;simp only[aN]at ht' ⊢;exact⟨.inl rfl,Nat.zero_le _,fun h=>by simp at h,fun _ h=>by simp at h⟩
   ·simp only[aT _ _ e2]at ht' ⊢;exact mN.mono (G:=G) hk (aT _ _ e) (aT _ _ e) (fun b h=>ho b _ (by simpa using e2) h) (S.en t' ht')
 ·intro t' ht';exact S.mp_keep hk (fun _=>rfl) (fun b _ h=>ho b _ au h) rfl ht'
 ·intro b' h;by_cases e:b'=b
  ·subst e;exact⟨hge,aw⟩
  ·simp only[aT _ _ e]at h;have:=S.own b' h;exact⟨this.1,aw⟩
end
end Go.AM
