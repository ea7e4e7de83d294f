/- Lemmas, part 5 of 23. No condition. -/
import Derived.Test.YtcmfkhicjhliaaaGreatPZ503
import Derived.Laws.IdiomCopy
import Derived.Lib.SliceRun
set_option maxRecDepth 65536
set_option linter.unusedSimpArgs false
set_option linter.unusedVariables false
set_option linter.unusedSectionVars false
namespace Go.AM
structure Tg {α:Type} (a:α):Type where
def bj {α:Type} (o:Option α) (K:α->Prop):Prop:=match o with|some x=>K x|none=>False
def oZ (k:IntKind) (n:Int) (K:Value->Prop):Prop :=
 match k with
 | .i64=>(-9223372036854775808<=n/\n<9223372036854775808)/\K (.int .i64 n)
 | k=>K (.int k (k.wrap n))
def fp (P:Program) (op:BinOp) (T:TypeId) (x y:Operand) (a b:Value) (K:Value->Prop):Prop :=
 match op,a,b with
 | .shl,.int k a,.int _ b=>0<=b/\K (.int k (k.wrap (a*2 ^ (min b.toNat k.bits))))
 | .shr,.int k a,.int _ b=>0<=b/\K (.int k (a.fdiv (2 ^ (min b.toNat k.bits))))
 | .add,.int k a,.int k' b=>k=k'/\oZ k (a+b) K
 | .sub,.int k a,.int k' b=>k=k'/\oZ k (a-b) K
 | .mul,.int k a,.int k' b=>k=k'/\oZ k (a*b) K
 | .quo,.int k a,.int k' b=>k=k'/\b≠0/\oZ k (a.tdiv b) K
 | .rem,.int k a,.int k' b=>k=k'/\b≠0/\K (.int k (a.tmod b))
 | .and,.int k a,.int k' b=>k=k'/\K (.int k (k.wrap (BitVec.ofInt k.bits a &&& BitVec.ofInt k.bits b).toNat))
 | .or,.int k a,.int k' b=>k=k'/\K (.int k (k.wrap (BitVec.ofInt k.bits a ||| BitVec.ofInt k.bits b).toNat))
 | .xor,.int k a,.int k' b=>k=k'/\K (.int k (k.wrap (BitVec.ofInt k.bits a ^^^ BitVec.ofInt k.bits b).toNat))
 | .eql,.int k a,.int k' b=>k=k'/\K (.bool (decide (a=b)))
 | .neq,.int k a,.int k' b=>k=k'/\K (.bool (!decide (a=b)))
 | .lss,.int k a,.int k' b=>k=k'/\K (.bool (decide (a<b)))
 | .leq,.int k a,.int k' b=>k=k'/\K (.bool (decide (a<=b)))
 | .gtr,.int k a,.int k' b=>k=k'/\K (.bool (decide (b<a)))
 | .geq,.int k a,.int k' b=>k=k'/\K (.bool (decide (b<=a)))
 | .eql,.bool a,.bool b=>P.underlying T=some .bool/\K (.bool (a == b))
 | .neq,.bool a,.bool b=>P.underlying T=some .bool/\K (.bool (!(a == b)))
 | op,a,b=>∃ z,ez P (do eqGuard op T x y a b;binOp op T a b) z/\z.oneCell'=true/\K z
def wUn (P:Program) (op:UnOp) (a:Value) (K:Value->Prop):Prop :=
 match op,a with
 | .not,.bool b=>K (.bool !b)
 | .neg,.int k n=>oZ k (0-n) K
 | op,a=>∃ z,ez P (Op.unary op a) z/\z.oneCell'=true/\K z
def P9 (d:TypeDesc) (K:IntKind->Prop):Prop:=match d with | .int k=>K k|_=>False
def Nu (v:Value) (K:Int->Prop):Prop:=match v with | .int _ n=>K n|_=>False
def Dy (P:Program) (s d:TypeId) (a:Value) (K:Value->Prop):Prop :=
 P.underlying s≠none/\bj (P.underlying d) fun u=>P9 u fun k=>Nu a fun n=>K (.int k (k.wrap n))
def m8 (v:AV) (K:Nat->Prop):Prop :=
 match v with
 | .i (.c (.v (.int _ i)))=>0<=i/\K i.toNat
 | _=>False
def St.wCells (st:St) (D:Option DI) (v:AV) (K:List C->Prop):Prop :=
 match v with
 | .ip l=>K l
 | .bp t g off=>((st.b t).gen=g/\0<g/\okB D t)/\K ((st.b t).cs.drop off)
 | .ep t g idx off=>((st.e t).gen=g/\0<g/\okE D t)/\∃ r,(st.e t).rs[idx]?=some r/\K (r.drop off)
 | _=>False
def St.wEnd (st:St) (x:Option Operand) (n:Nat) (K:Nat->Prop):Prop :=
 match x with
 | none=>K n
 | some y=>m8 (st.ev y) K
def lens (n:Nat) (rs:List (List C)):Prop:=∀ r∈rs,r.length=n
def wFn (P:Program) (f:FuncId) (args:List IV) (K:List IV->Prop) (_:Tg K):Prop:=∃ res,Fn P f args res/\K res
def Oc (P:Program) (f:FuncId) (args:List IV) (K:Nat->List (List C)->Prop) (_:Tg K):Prop:=∃ sz rs,FnM P f args sz rs/\K sz rs
def o5 (rs:List (List C)) (i:Nat) (K:List C->Prop):Prop:=∃ r,rs[i]?=some r/\K r
def wIf (b:Bool) (A B:Prop) (_:Tg (A,B)):Prop:=(b=true->A)/\(b=false->B)
def pL (v:AV) (K:Bool->Prop):Prop:=match v with | .i (.c (.v (.bool b)))=>K b|_=>False
def wI2 (v u:AV) (K:IntKind->Int->Int->Prop):Prop:=match v,u with | .i (.c (.v (.int k a))),.i (.c (.v (.int k' b)))=>k=k'/\K k a b|_,_=>False
def Bv (v:AV) (K:List IV->Prop):Prop:=match v with | .tup xs=>K xs|_=>False
def BK (v:AV) (K:List C->Prop):Prop:=match v with | .i (.g cs)=>K cs|_=>False
def kA (l:List Operand) (K1:Operand->Prop) (K2:Operand->Operand->Prop):Prop:=match l with|[x]=>K1 x|[x,y]=>K2 x y|_=>False
def pY (v:AV) (t:Nat):Prop:=match v with | .sl t' _ _=>t'≠t|_=>True
def St.wApp (st:St) (d:Nat) (te:TI) (xs:List (List C)) (y x:AV) (K:St->Prop):Prop :=
 match x with
 | .fl rs=>lens te.size rs/\(rs.length+xs.length)*te.bytes<=140737488355328 /\
   K (st.app (some d) { v := .sl d ((st.e d).gen+1) (rs.length+xs.length),ne:=some ⟨(st.e d).gen+1,te.size,rs++xs,!xs.isEmpty,true⟩ })
 | .sl t g len=>((st.e t).gen=g/\0<g/\(st.e t).app=true/\len=(st.e t).rs.length/\te.size=(st.e t).sz/\d≠t)/\(len+xs.length)*te.bytes<=140737488355328 /\
   pY y t /\
   K (st.app (some d) { v := .sl d ((st.e d).gen+1) (len+xs.length),ne:=some ⟨(st.e d).gen+1,te.size,(st.e t).rs++xs,(st.e t).m || !xs.isEmpty,true⟩,kill:=some t })
 | _=>False
def il (P:Program) (kind:FuncId->CK) (D:Option DI) (dst:Option Tmp) (K:St->Prop) (st:St) (op:Op) (_:Tg (K,st,op)):Prop :=
 D=none/\∀ o:Oper,o.op=op->o.dst=dst->eO kind o=true/\qy P o st K
def fP (kind:FuncId->CK) (x:Operand):Bool:=match x with | .func f=>decide (kind f = .sem)|_=>false
def oc (b:Bool) (A B:Prop) (_:Tg (A,B)):Prop:=bif b then A else B
def vS (k:CK) (A B:Prop):Prop:=match k with | .fn=>A | .fresh=>B | .sem=>False
def Hc (c:Callee) (K:FuncId->Prop):Prop:=match c with | .value (.func f)=>K f|_=>False
def ng (P:Program) (kind:FuncId->CK) (D:Option DI) (dst:Option Tmp) (K:St->Prop) (st:St) (c:Call):Prop :=
 match c.callee with
 | .builtin .len=>kA c.args.toList (fun x=>fW D (st.ev x)/\((c.argTypes[0]?).bind (tinfo P)).bind (·.elem)≠none/\bj (st.len (st.ev x)) fun n=>K (st.put dst (sc (.int .i64 n)))) fun _ _=>False
 | .builtin .max=>kA c.args.toList (fun _=>False) fun x y=>wI2 (st.ev x) (st.ev y) fun k a b=>K (st.put dst (sc (.int k (max a b))))
 | .builtin .min=>kA c.args.toList (fun _=>False) fun x y=>wI2 (st.ev x) (st.ev y) fun k a b=>K (st.put dst (sc (.int k (min a b))))
 | .builtin .append=>bj dst fun d=>kA c.args.toList (fun _=>False) fun x y=>bj c.argTypes[0]? fun t=>bj c.argTypes[1]? fun u=>c.argTypes.size=2 /\
   bj (fE P t) fun te=>(tinfo P u).bind (·.elem)≠none/\bj te.zero fun z=>z.length=te.size/\0<te.size/\0<te.bytes /\
    bj (st.rows (st.ev y)) fun xs=>lens te.size xs/\nA D (st.ev x).full/\st.wApp d te xs (st.ev y) (st.ev x).full K
 | .value x=>oc (fP kind x) (il P kind D dst K st (.call c) ⟨⟩) (bj (c8 st c) fun f=>(∀ x∈c.args.toList,fW D (st.ev x))/\bj (eF (fun x=>st.toIV (st.ev x)) c.args.toList) fun args =>
   vS (kind f) (wFn P f args (fun res=>K (st.put dst (rv res))) ⟨⟩)
    (bj dst fun d=>Hc c.callee fun f'=>f'=f/\Oc P f args (fun sz rs=>K (st.app (some d) { v := .sl d ((st.e d).gen+1) rs.length,ne:=some ⟨(st.e d).gen+1,sz,rs,!rs.isEmpty,true⟩ })) ⟨⟩)) ⟨⟩
 | _=>il P kind D dst K st (.call c) ⟨⟩
def St.wFA (st:St) (D:Option DI) (o:Nat) (v:AV) (K:AV->Prop):Prop :=
 match v with
 | .ip cs=>o<=cs.length/\K (.ip (cs.drop o))
 | .bp t g off=>((st.b t).gen=g/\0<g/\okB D t)/\K (.bp t g (off+o))
 | .ep t g i off=>((st.e t).gen=g/\0<g/\okE D t)/\K (.ep t g i (off+o))
 | _=>False
def St.wIA (P:Program) (st:St) (D:Option DI) (ti:TI) (i:Nat) (v:AV) (K:AV->Prop):Prop :=
 match v with
 | .i (.c (.lst rs))=>bj (ti.elem.bind (tinfo P)) fun te=>o5 rs i fun r=>r.length=te.size/\K (.ip r)
 | .fl rs=>bj (ti.elem.bind (tinfo P)) fun te=>o5 rs i fun r=>r.length=te.size/\K (.ip r)
 | .sl t g len=>bj (ti.elem.bind (tinfo P)) fun te=>((st.e t).gen=g/\0<g/\okE D t/\te.size=(st.e t).sz)/\i<len/\K (.ep t g i 0)
 | .bp t g off=>bj ti.arr fun a=>bj (tinfo P a.2) fun te=>((st.b t).gen=g/\0<g/\okB D t)/\i<a.1/\K (.bp t g (off+i*te.size))
 | .ip cs=>bj ti.arr fun a=>bj (tinfo P a.2) fun te=>i<a.1/\i*te.size<=cs.length/\K (.ip (cs.drop (i*te.size)))
 | _=>False
def oY (te:TI) (l h:Nat) (v:AV) (K:AV->Prop):Prop :=
 match v with
 | .i (.c (.lst rs))=>lens te.size rs/\K (.i (.c (.lst ((rs.take h).drop l))))
 | .fl rs=>lens te.size rs/\K (.i (.c (.lst ((rs.take h).drop l))))
 | .sl t g _=>if l=0 then K (.sl t g h)else l<h/\K (.sub t g l (h-l) te.size)
 | _=>False
def od (te:TI) (l h:Nat) (v:AV) (K:AV->Prop):Prop :=
 match v with
 | .i (.c (.lst rs))=>lens te.size rs/\K (.fl ((rs.take h).drop l))
 | _=>False
def Hb (mx:Option Operand) (A:Prop) (B:Operand->Prop):Prop:=match mx with|none=>A|some y=>B y
def St.setB (st:St) (n:Nat) (v:BX):St:={ st with b:=upd st.b n v }
def St.setE (st:St) (n:Nat) (v:EN):St:={ st with e:=upd st.e n v }
def St.wStore (st:St) (n:Nat) (cs:List C) (v:AV) (K:St->Prop):Prop :=
 match v with
 | .bp t g off=>((st.b t).gen=g/\0<g)/\off+n<=(st.b t).cs.length/\K (st.setB t ⟨g,cJ (st.b t).cs off cs⟩)
 | .ep t g i off=>((st.e t).gen=g/\0<g/\(st.e t).m=true)/\o5 (st.e t).rs i fun r=>off+n<=r.length /\
   K (st.setE t { st.e t with rs:=(st.e t).rs.set i (cJ r off cs) })
 | _=>False
def St.wNil (st:St) (D:Option DI) (v:AV) (K:AV->Prop):Prop :=
 match v with
 | .bp t g off=>((st.b t).gen=g/\0<g/\okB D t)/\K (.bp t g off)
 | .ip cs=>K (.ip cs)
 | _=>False
def HF (P:Program) (a:Option (Nat×TypeId)) (ps:List (Nat×Operand)):Prop:=match a with|none=>True|some x=>ps=[]/\tinfo P x.2≠none
def W (P:Program) (kind:FuncId->CK) (D:Option DI) (dst:Option Tmp) (K:St->Prop) (st:St) (op:Op):Prop :=
 match op with
 | .move x=>K (st.put dst (st.ev x))
 | .assign x=>K (st.put dst (st.ev x))
 | .pick c a b=>pL (st.ev c) fun t=>wIf t (K (st.put dst (st.ev a))) (K (st.put dst (st.ev b))) ⟨⟩
 | .alloc T=>bj dst fun d=>bj (tinfo P T) fun ti=>bj ti.zero fun cs=>K (st.app (some d) { v := .bp d ((st.b d).gen+1) 0,nb:=some cs })
 | .box _ x=>bj dst fun d=>fW D (st.ev x)/\bj (st.toIV (st.ev x)) fun y=>K (st.app (some d) { v := .bp d ((st.b d).gen+1) 0,nb:=some y.cells })
 | .build T ps=>bj (tinfo P T) fun ti=>bj ti.zero fun z=>ti.agg=true/\HF P ti.arr ps.toList /\
   bj (eF (fun f=>(tinfo P f.2).map fun t=>(f.1,t.size)) ti.flds) fun pl=>(∀ p∈ps.toList,fW D (st.ev p.2))/\bj (st.partCells ps.toList) fun l =>
   bj (mT pl z l) fun cs=>K (st.put dst (.i (.g cs)))
 | .buildSlice T n ps=>bj (fE P T) fun ti=>bj ti.zero fun z=>z.length=ti.size/\0<ti.size/\n*ti.size<=16777216/\(∀ p∈ps.toList,fW D (st.ev p.2))/\bj (st.partCells ps.toList) fun l =>
   (∀ p∈l,p.1<n/\p.2.length=ti.size)/\K (st.put dst (.fl (l.foldl (fun rs p=>rs.set p.1 p.2) (List.replicate n z))))
 | .load T x=>bj (tinfo P T) fun ti=>st.wCells D (st.ev x) fun cs=>bj (ldv ti cs) fun iv=>K (st.put dst (.i iv))
 | .nilCheck x=>st.wNil D (st.ev x) fun v=>K (st.put dst v)
 | .binOp op T x y _=>bj (st.ev x).pv fun a=>bj (st.ev y).pv fun b=>fp P op T x y a b fun z=>K (st.put dst (sc z))
 | .unOp op _ x=>bj (st.ev x).pv fun a=>wUn P op a fun z=>K (st.put dst (sc z))
 | .convert s d x=>bj (st.ev x).pv fun a=>Dy P s d a fun z=>K (st.put dst (sc z))
 | .index T x y=>bj (st.ev x).pv fun a=>bj (st.ev y).pv fun b=>∃ z,ez P (Instr.index T a b) z/\z.oneCell'=true/\K (st.put dst (sc z))
 | .extract x n=>Bv (st.ev x) fun xs=>bj xs[n]? fun y=>K (st.put dst (.i y))
 | .field T x f=>bj (tinfo P T) fun ti=>bj ti.flds[f]? fun fd=>bj (tinfo P fd.2) fun tf=>BK (st.ev x) fun cs=>bj (ldv tf (cs.drop fd.1)) fun iv=>K (st.put dst (.i iv))
 | .fieldAddr T x f=>bj (tinfo P T) fun ti=>bj ti.flds[f]? fun fd=>bj (tinfo P fd.2) fun tf=>tf.size≠0/\st.wFA D fd.1 (st.ev x) fun v=>K (st.put dst v)
 | .indexAddr T x y=>bj (tinfo P T) fun ti=>m8 (st.ev y) fun i=>St.wIA P st D ti i (st.ev x) fun v=>K (st.put dst v)
 | .slice T x lo hi mx=>bj (tinfo P T) fun ti=>bj ti.elem fun e=>bj (tinfo P e) fun te=>ro D x (st.ev x)/\bj (st.len (st.ev x)) fun n =>
   st.wEnd lo 0 fun l=>st.wEnd hi n fun h=>(l<=h/\h<=n)/\Hb mx (oY te l h (st.ev x) fun v=>K (st.put dst v))
    fun y=>hi≠none/\m8 (st.ev y) fun m=>m=h/\od te l h (st.ev x) fun v=>K (st.put dst v)
 | .makeSlice T x y=>bj dst fun d=>bj (fE P T) fun te=>bj (te.zero.map mkZ) fun z=>z.length=te.size/\m8 (st.ev x) fun n=>m8 (st.ev y) fun m=>(n<=m/\m*te.bytes<=140737488355328/\m<4611686018427387904) /\
   K (st.app (some d) { v := .sl d ((st.e d).gen+1) n,ne:=some ⟨(st.e d).gen+1,te.size,List.replicate n z,true,true⟩ })
 | .store T x y=>D=none/\dst=none/\bj (tinfo P T) fun ti=>bj (st.toIV (st.ev y)) fun v=>v.cells.length=ti.size/\st.wStore ti.size v.cells (st.ev x) K
 | .call c=>ng P kind D dst K st c
 | op=>il P kind D dst K st op ⟨⟩
def jR (v:AV) (want:Bool) (A B C:Prop):Prop :=
 match v with
 | .i (.c (.v (.bool b)))=>bif want then wIf b A B ⟨⟩else wIf b B A ⟨⟩
 | .tup []=>C
 | _=>False
def Ws (P:Program) (kind:FuncId->CK) (D:Option DI) (ops:List Oper):List Oper->(St->Prop)->St->Prop
 | [],K,st=>K st
 | o::l,K,st=>match o.guard with
  | none=>W P kind D o.dst (Ws P kind D ops l K) st o.op
  | some (j,want)=>bj ((ops[j]?).bind (·.dst)) fun d=>jR (st.t d) want
    (W P kind D o.dst (Ws P kind D ops l K) (st.setT d (sc (.bool want))) o.op)
    (Ws P kind D ops l K ((st.setT d (sc (.bool !want))).put o.dst (.tup [])))
    (Ws P kind D ops l K (st.put o.dst (.tup [])))
section
variable {P:Program} {kind:FuncId->CK} {D:Option DI} {st:St} {dst:Option Tmp} {o:Oper} {K:St->Prop}
theorem aX {α:Type} {o:Option α} {K:α->Prop} (h:bj o K):∃ x,o=some x/\K x:=by
 cases o with
 | none=>exact h.elim
 | some x=>exact⟨x,rfl,h⟩
theorem lf {v:AV} {K:Nat->Prop} (h:m8 v K):∃ i:Nat,lH v (i:Int)/\K i:=by
 unfold m8 at h;split at h
 ·rename_i k i;exact⟨i.toNat,⟨k,by rw[Int.toNat_of_nonneg h.1]⟩,h.2⟩
 ·exact h.elim
end
section
variable {P:Program} {kind:FuncId->CK} {D:Option DI} {st:St} {dst:Option Tmp} {o:Oper} {K:St->Prop}
theorem ibeq (a b:Int):(a == b)=decide (a=b):=by rw[Bool.eq_iff_iff];simp
theorem kZ {k:IntKind} {n:Int} {K:Value->Prop} (h:oZ k n K):K (.int k (k.wrap n)):=by
 unfold oZ at h;split at h
 ·obtain⟨⟨h1,h2⟩,h3⟩:=h;have:IntKind.wrap .i64 n=n:=by
   simp only[IntKind.wrap,IntKind.bits,IntKind.signed,Bool.true_and,Nat.reduceSub,Int.reducePow];split<;>rename_i h4<;>simp only[decide_eq_true_eq,ge_iff_le]at h4<;>omega
  rw[this];exact h3
 ·exact h
theorem Fv {op:BinOp} {T:TypeId} {x y:Operand} {a b:Value} {K:Value->Prop} (h:fp P op T x y a b K) :
  ∃ z,ez P (do eqGuard op T x y a b;binOp op T a b) z/\z.oneCell'=true/\K z:=by
 have pure1:∀{op:BinOp} {k k':IntKind} {a b:Int} {z:Value} {K:Value->Prop},(∀ w,(binOp op T (.int k a) (.int k' b)).run P w = .ok z w)->z.oneCell'=true->K z ->
   ∃ z,ez P (do eqGuard op T x y (.int k a) (.int k' b);binOp op T (.int k a) (.int k' b)) z/\z.oneCell'=true/\K z:=by
  intro op k k' a b z K h1 h2 h3;refine⟨z,fun w=>?_,h2,h3⟩;have:(eqGuard op T x y (.int k a) (.int k' b)).run P w = .ok () w:=by
   unfold eqGuard;split<;>simp
  simp[Sem.run_bind,this,h1 w]
 have pure2:∀{op:BinOp} {a b:Bool} {z:Value} {K:Value->Prop},(∀ w,(binOp op T (.bool a) (.bool b)).run P w = .ok z w)->z.oneCell'=true->K z ->
   ∃ z,ez P (do eqGuard op T x y (.bool a) (.bool b);binOp op T (.bool a) (.bool b)) z/\z.oneCell'=true/\K z:=by
  intro op a b z K h1 h2 h3;refine⟨z,fun w=>?_,h2,h3⟩;have:(eqGuard op T x y (.bool a) (.bool b)).run P w = .ok () w:=by
   unfold eqGuard;split<;>simp
  simp[Sem.run_bind,this,h1 w]
 unfold fp at h;split at h
 ·obtain⟨h1,h2⟩:=h;refine pure1 (z:=_) (fun w=>?_) rfl h2;simp[binOp,Op.shift,Int.not_lt.2 h1]
 ·obtain⟨h1,h2⟩:=h;refine pure1 (z:=_) (fun w=>?_) rfl h2;simp[binOp,Op.shift,Int.not_lt.2 h1]
 ·obtain⟨rfl,h2⟩:=h;exact pure1 (fun w=>by simp[binOp,Op.intArith]) rfl (kZ h2)
 ·obtain⟨rfl,h2⟩:=h;exact pure1 (fun w=>by simp[binOp,Op.intArith]) rfl (kZ h2)
 ·obtain⟨rfl,h2⟩:=h;exact pure1 (fun w=>by simp[binOp,Op.intArith]) rfl (kZ h2)
 ·obtain⟨rfl,h1,h2⟩:=h;exact pure1 (fun w=>by simp[binOp,Op.intDiv,h1]) rfl (kZ h2)
 ·obtain⟨rfl,h1,h2⟩:=h;exact pure1 (z:=_) (fun w=>by simp[binOp,Op.intDiv,h1]) rfl h2
 ·obtain⟨rfl,h2⟩:=h;exact pure1 (z:=_) (fun w=>by simp[binOp,Op.intBits]) rfl h2
 ·obtain⟨rfl,h2⟩:=h;exact pure1 (z:=_) (fun w=>by simp[binOp,Op.intBits]) rfl h2
 ·obtain⟨rfl,h2⟩:=h;exact pure1 (z:=_) (fun w=>by simp[binOp,Op.intBits]) rfl h2
 ·obtain⟨rfl,h2⟩:=h;exact pure1 (z:=_) (fun w=>by simp[binOp,Op.intCmp,ibeq]) rfl h2
 ·obtain⟨rfl,h2⟩:=h;exact pure1 (z:=_) (fun w=>by simp[binOp,Op.intCmp,bne,ibeq]) rfl h2
 ·obtain⟨rfl,h2⟩:=h;exact pure1 (z:=_) (fun w=>by simp[binOp,Op.intCmp]) rfl h2
 ·obtain⟨rfl,h2⟩:=h;exact pure1 (z:=_) (fun w=>by simp[binOp,Op.intCmp]) rfl h2
 ·obtain⟨rfl,h2⟩:=h;exact pure1 (z:=_) (fun w=>by simp[binOp,Op.intCmp]) rfl h2
 ·obtain⟨rfl,h2⟩:=h;exact pure1 (z:=_) (fun w=>by simp[binOp,Op.intCmp]) rfl h2
 ·obtain⟨h1,h2⟩:=h;exact pure2 (z:=_) (fun w=>by simp[binOp,run_equal_bool w T _ _ h1]) rfl h2
 ·obtain⟨h1,h2⟩:=h;exact pure2 (z:=_) (fun w=>by simp[binOp,run_equal_bool w T _ _ h1]) rfl h2
 ·exact h
theorem G9 {op:UnOp} {a:Value} {K:Value->Prop} (h:wUn P op a K):∃ z,ez P (Op.unary op a) z/\z.oneCell'=true/\K z:=by
 unfold wUn at h;split at h
 ·exact⟨_,fun w=>by simp[Op.unary],rfl,h⟩
 ·exact⟨_,fun w=>by simp[Op.unary,Op.intArith],rfl,kZ h⟩
 ·exact h
theorem BA {s d:TypeId} {a:Value} {K:Value->Prop} (h:Dy P s d a K):∃ z,ez P (convert s d a) z/\z.oneCell'=true/\K z:=by
 obtain⟨h1,h⟩:=h;obtain⟨u,h2,h⟩:=aX h;cases u<;>first|exact h.elim|skip
 cases a<;>first|exact h.elim|skip
 have⟨x,hx⟩:∃ x,P.underlying s=some x:=by
  cases hh:P.underlying s with
  | none=>exact absurd hh h1
  | some x=>exact⟨x,rfl⟩
 exact⟨_,fun w=>by simp[convert,run_underlying hx,run_underlying h2,Conv.intToInt],rfl,h⟩
theorem tF {v:AV} {K:Bool->Prop} (h:pL v K):∃ b,v=sc (.bool b)/\K b:=by
 unfold pL at h;split at h
 ·exact⟨_,rfl,h⟩
 ·exact h.elim
theorem yZ {v u:AV} {K:IntKind->Int->Int->Prop} (h:wI2 v u K):∃ k a b,v=sc (.int k a)/\u=sc (.int k b)/\K k a b:=by
 unfold wI2 at h;split at h
 ·rename_i k a k' b;obtain⟨rfl,h⟩:=h;exact⟨k,a,b,rfl,rfl,h⟩
 ·exact h.elim
theorem E0 {v:AV} {K:List IV->Prop} (h:Bv v K):∃ b,v = .tup b/\K b:=by
 unfold Bv at h;split at h
 ·exact⟨_,rfl,h⟩
 ·exact h.elim
theorem Fy {v:AV} {K:List C->Prop} (h:BK v K):∃ b,v = .i (.g b)/\K b:=by
 unfold BK at h;split at h
 ·exact⟨_,rfl,h⟩
 ·exact h.elim
theorem ni {l:List Operand} {K2:Operand->Operand->Prop} (h:kA l (fun _=>False) K2):∃ x y,l=[x,y]/\K2 x y:=by
 unfold kA at h;split at h
 ·exact h.elim
 ·exact⟨_,_,rfl,h⟩
 ·exact h.elim
theorem zb {l:List Operand} {K1:Operand->Prop} (h:kA l K1 (fun _ _=>False)):∃ x,l=[x]/\K1 x:=by
 unfold kA at h;split at h
 ·exact⟨_,rfl,h⟩
 ·exact h.elim
 ·exact h.elim
theorem E7 {c:Callee} {K:FuncId->Prop} (h:Hc c K):∃ f,c = .value (.func f)/\K f:=by
 unfold Hc at h;split at h
 ·exact⟨_,rfl,h⟩
 ·exact h.elim
theorem y5 {v:AV} {K:List C->Prop} (h:st.wCells D v K):∃ cs,st.cellsOf D v cs/\K cs:=by
 unfold St.wCells at h;split at h
 ·exact⟨_,rfl,h⟩
 ·exact⟨_,⟨h.1.1,h.1.2.1,h.1.2.2,rfl⟩,h.2⟩
 ·obtain⟨⟨h1,h2,h3⟩,r,h4,h5⟩:=h;exact⟨_,⟨h1,h2,h3,r,h4,rfl⟩,h5⟩
 ·exact h.elim
theorem vT {x:Option Operand} {n:Nat} {K:Nat->Prop} (h:st.wEnd x n K):∃ l:Nat,(match x with|none=>l=n|some y=>lH (st.ev y) (l:Nat))/\K l:=by
 unfold St.wEnd at h;cases x with
 | none=>exact⟨n,rfl,h⟩
 | some y=>exact lf h
theorem pI {op:Op} (ho:o.op=op) (hs:eO kind o=false) (h:il P kind D o.dst K st op ⟨⟩):False:=by
 have:=(h.2 o ho rfl).1;rw[hs]at this;simp at this
theorem y7 {c:Call} (ho:o.op = .call c) (hs:eO kind o=false) (h:ng P kind D o.dst K st c):∃ δ,bu P kind D o st δ/\K (st.app o.dst δ):=by
 unfold ng at h;unfold bu;rw[ho];dsimp only;cases hc:c.callee with
 | invoke r m=>rw[hc]at h;exact(pI ho hs h).elim
 | value x =>
  rw[hc]at h;dsimp only at h ⊢;unfold oc at h;cases hsc:fP kind x with
  | true=>rw[hsc]at h;exact(pI ho hs h).elim
  | false =>
  rw[hsc]at h;simp only[cond_false]at h;obtain⟨f,h1,h2,h⟩:=aX h;obtain⟨args,h3,h4⟩:=aX h;cases hk:kind f with
  | fn =>
   rw[hk]at h4;obtain⟨res,h5,h6⟩:=h4;exact⟨{ v:=rv res },⟨f,args,h1,h3,h2,by simp only[hk];exact⟨res,h5,rfl⟩⟩,by rw[<-bJ];exact h6⟩
  | fresh =>
   rw[hk]at h4;obtain⟨d,hd,h4⟩:=aX h4;obtain⟨f',hf,rfl,sz,rs,h5,h6⟩:=E7 h4;cases hf;exact⟨_,⟨f',args,h1,h3,h2,by simp only[hk];exact⟨d,sz,rs,hd,trivial,h5,rfl⟩⟩,by rw[hd];exact h6⟩
  | sem=>rw[hk]at h4;exact h4.elim
 | builtin b =>
  rw[hc]at h;cases b with
  | len =>
   dsimp only at h ⊢;obtain⟨x,hx,h1,h2,h3⟩:=zb h;obtain⟨n,h4,h5⟩:=aX h3;exact⟨{ v:=sc (.int .i64 n) },⟨x,n,hx,h4,h1,h2,rfl⟩,by rw[<-bJ];exact h5⟩
  | max =>
   dsimp only at h ⊢;obtain⟨x,y,hx,h⟩:=ni h;obtain⟨k,p,q,e1,e2,h⟩:=yZ h;exact⟨{ v:=sc (.int k (max p q)) },⟨x,y,k,p,q,hx,e1,e2,rfl⟩,by rw[<-bJ];exact h⟩
  | min =>
   dsimp only at h ⊢;obtain⟨x,y,hx,h⟩:=ni h;obtain⟨k,p,q,e1,e2,h⟩:=yZ h;exact⟨{ v:=sc (.int k (min p q)) },⟨x,y,k,p,q,hx,e1,e2,rfl⟩,by rw[<-bJ];exact h⟩
  | append =>
   dsimp only at h ⊢;obtain⟨d,hd,h⟩:=aX h;obtain⟨x,y,hx,h⟩:=ni h;obtain⟨t,ht1,h⟩:=aX h;obtain⟨u,ht2,hts,h⟩:=aX h;have ht:c.argTypes.toList=[t,u]:=by
    cases h':c.argTypes with
    | mk l =>
     rw[h']at ht1 ht2 hts
     match l,hts with
     | [p,q],_=>simp at ht1 ht2;simp[ht1,ht2]
   obtain⟨te,h1,h2,h⟩:=aX h;obtain⟨z,h3,h4,h5,h6,h⟩:=aX h;obtain⟨xs,h7,h8,hnk,h9⟩:=aX h;unfold St.wApp at h9;split at h9
   ·rename_i rs e;obtain⟨k1,k2,k3⟩:=h9;refine⟨_,⟨d,x,y,t,u,te,xs,hd,hx,ht,h1,h2,h7,⟨z,h3,h4⟩,h5,h6,h8,hnk,?_⟩,by rw[hd];exact k3⟩;rw[e];exact⟨k1,k2,rfl⟩
   ·rename_i t' g len e;obtain⟨⟨k1,k2,k3,k4,k5,k6⟩,k7,k8,k9⟩:=h9;refine⟨_,⟨d,x,y,t,u,te,xs,hd,hx,ht,h1,h2,h7,⟨z,h3,h4⟩,h5,h6,h8,hnk,?_⟩,by rw[hd];exact k9⟩;rw[e];exact⟨k1,k2,k3,k4,k5,k7,k6,k8,rfl⟩
   ·exact h9.elim
  | _=>exact(pI ho hs h).elim
theorem Lv {α:Type} {o:Option α} (h:o≠none):∃ x,o=some x:=by
 cases o with
 | none=>exact absurd rfl h
 | some x=>exact⟨x,rfl⟩
theorem kx {K':St->Prop} (hk:∀ s,K s->K' s) (h:AOp P kind D o K st):AOp P kind D o K' st:=by
 unfold AOp at h ⊢;split
 ·rename_i e;rw[e]at h;dsimp only at h;obtain⟨h1,h2,ti,v,h3,h4,h5,h6⟩:=h;refine⟨h1,h2,ti,v,h3,h4,h5,?_⟩;split at h6
  ·exact⟨h6.1,h6.2.1,h6.2.2.1,hk _ h6.2.2.2⟩
  ·obtain⟨k1,k2,k3,r,k4,k5,k6⟩:=h6;exact⟨k1,k2,k3,r,k4,k5,hk _ k6⟩
  ·exact h6.elim
 ·rename_i hne;split at h
  ·rename_i e;exact absurd e (hne _ _ _)
  ·split at h
   ·rename_i hs;rw[if_pos hs];refine⟨h.1,fun W0 M0 N G w a Q S hd=>Oper.wp_mono ?_ (h.2 W0 M0 N G w a Q S hd)⟩;rintro a' w' ⟨st',G',k1,k2⟩;exact⟨st',G',hk _ k1,k2⟩
   ·rename_i hs;rw[if_neg hs];obtain⟨δ,k1,k2⟩:=h;exact⟨δ,k1,hk _ k2⟩
theorem Rv (hs:∀ T x y,o.op ≠ .store T x y) (hns:eO kind o=false) (h:W P kind D o.dst K st o.op):∃ δ,bu P kind D o st δ/\K (st.app o.dst δ):=by
 cases ho:o.op with
 | call c=>rw[ho]at h;exact y7 ho hns h
 | move x=>rw[ho]at h;exact⟨{ v:=st.ev x },by unfold bu;rw[ho],by rw[<-bJ];exact h⟩
 | assign x=>rw[ho]at h;exact⟨{ v:=st.ev x },by unfold bu;rw[ho],by rw[<-bJ];exact h⟩
 | pick c x y =>
  rw[ho]at h;obtain⟨t,e,h⟩:=tF h;cases t with
  | true=>exact⟨{ v:=st.ev x },by unfold bu;rw[ho];exact⟨true,e,rfl⟩,by rw[<-bJ];exact h.1 rfl⟩
  | false=>exact⟨{ v:=st.ev y },by unfold bu;rw[ho];exact⟨false,e,rfl⟩,by rw[<-bJ];exact h.2 rfl⟩
 | alloc T =>
  rw[ho]at h;obtain⟨d,h1,h⟩:=aX h;obtain⟨ti,h2,h⟩:=aX h;obtain⟨cs,h3,h⟩:=aX h;exact⟨_,by unfold bu;rw[ho];exact⟨d,ti,cs,h1,h2,h3,rfl⟩,by rw[h1];exact h⟩
 | box T x =>
  rw[ho]at h;obtain⟨d,h1,h2,h⟩:=aX h;obtain⟨y,h3,h⟩:=aX h;exact⟨_,by unfold bu;rw[ho];exact⟨d,y,h1,h3,h2,rfl⟩,by rw[h1];exact h⟩
 | build T ps =>
  rw[ho]at h;obtain⟨ti,h1,h⟩:=aX h;obtain⟨z,h2,h3,h4,h⟩:=aX h;obtain⟨pl,h5,h6,h⟩:=aX h;obtain⟨l,h7,h⟩:=aX h;obtain⟨cs,h8,h⟩:=aX h;refine⟨{ v := .i (.g cs) },by unfold bu;rw[ho];refine⟨ti,z,pl,l,cs,h1,h2,h3,?_,h5,h7,h6,h8,rfl⟩;revert h4;unfold HF;cases ti.arr<;>simp only[imp_self];exact fun h4=>⟨h4.1,Lv h4.2⟩,by rw[<-bJ];exact h⟩
 | buildSlice T n ps =>
  rw[ho]at h;obtain⟨ti,h1,h⟩:=aX h;obtain⟨z,h2,h3,h4,h5,h6,h⟩:=aX h;obtain⟨l,h7,h8,h⟩:=aX h;exact⟨{ v := .fl _ },by unfold bu;rw[ho];exact⟨ti,z,l,h1,h2,h3,h4,h5,h7,h6,h8,rfl⟩,by rw[<-bJ];exact h⟩
 | load T x =>
  rw[ho]at h;obtain⟨ti,h1,h⟩:=aX h;obtain⟨cs,h2,h⟩:=y5 h;obtain⟨iv,h3,h⟩:=aX h;exact⟨{ v := .i iv },by unfold bu;rw[ho];exact⟨ti,cs,iv,h1,h2,h3,rfl⟩,by rw[<-bJ];exact h⟩
 | nilCheck x =>
  rw[ho]at h;refine⟨{ v:=st.ev x },?_,?_⟩
  ·unfold bu;rw[ho];simp only[W,St.wNil]at h;refine⟨?_,rfl⟩;split at h
   ·rename_i e;rw[e];exact h.1
   ·rename_i e;rw[e];trivial
   ·exact h.elim
  ·rw[<-bJ];simp only[W,St.wNil]at h;split at h
   ·rename_i e;rw[e];exact h.2
   ·rename_i e;rw[e];exact h
   ·exact h.elim
 | binOp op T x y U =>
  rw[ho]at h;obtain⟨a,h1,h⟩:=aX h;obtain⟨b,h2,h⟩:=aX h;obtain⟨z,h3,h4,h⟩:=Fv h;exact⟨{ v:=sc z },by unfold bu;rw[ho];exact⟨a,b,z,h1,h2,h3,h4,rfl⟩,by rw[<-bJ];exact h⟩
 | unOp op T x =>
  rw[ho]at h;obtain⟨a,h1,h⟩:=aX h;obtain⟨z,h3,h4,h⟩:=G9 h;exact⟨{ v:=sc z },by unfold bu;rw[ho];exact⟨a,z,h1,h3,h4,rfl⟩,by rw[<-bJ];exact h⟩
 | convert s d x =>
  rw[ho]at h;obtain⟨a,h1,h⟩:=aX h;obtain⟨z,h3,h4,h⟩:=BA h;exact⟨{ v:=sc z },by unfold bu;rw[ho];exact⟨a,z,h1,h3,h4,rfl⟩,by rw[<-bJ];exact h⟩
 | index T x y =>
  rw[ho]at h;obtain⟨a,h1,h⟩:=aX h;obtain⟨b,h2,z,h3,h4,h⟩:=aX h;exact⟨{ v:=sc z },by unfold bu;rw[ho];exact⟨a,b,z,h1,h2,h3,h4,rfl⟩,by rw[<-bJ];exact h⟩
 | extract x n =>
  rw[ho]at h;obtain⟨xs,e,h⟩:=E0 h;obtain⟨y,h1,h⟩:=aX h;exact⟨{ v := .i y },by unfold bu;rw[ho];exact⟨xs,y,e,h1,rfl⟩,by rw[<-bJ];exact h⟩
 | field T x f =>
  rw[ho]at h;obtain⟨ti,h1,h⟩:=aX h;obtain⟨fd,h2,h⟩:=aX h;obtain⟨tf,h3,h⟩:=aX h;obtain⟨cs,e,h⟩:=Fy h;obtain⟨iv,h4,h⟩:=aX h;exact⟨{ v := .i iv },by unfold bu;rw[ho];exact⟨ti,tf,fd,cs,iv,h1,h2,h3,e,h4,rfl⟩,by rw[<-bJ];exact h⟩
 | fieldAddr T x f =>
  rw[ho]at h;obtain⟨ti,h1,h⟩:=aX h;obtain⟨fd,h2,h⟩:=aX h;obtain⟨tf,h3,h4,h⟩:=aX h;unfold St.wFA at h;split at h
  ·rename_i cs e;exact⟨{ v := .ip (cs.drop fd.1) },by unfold bu;rw[ho];refine⟨ti,tf,fd,h1,h2,h3,h4,?_⟩;rw[e];exact⟨h.1,rfl⟩,by rw[<-bJ];exact h.2⟩
  ·rename_i t g off e;exact⟨{ v := .bp t g (off+fd.1) },by unfold bu;rw[ho];refine⟨ti,tf,fd,h1,h2,h3,h4,?_⟩;rw[e];exact⟨h.1.1,h.1.2.1,h.1.2.2,rfl⟩,by rw[<-bJ];exact h.2⟩
  ·rename_i t g i off e;exact⟨{ v := .ep t g i (off+fd.1) },by unfold bu;rw[ho];refine⟨ti,tf,fd,h1,h2,h3,h4,?_⟩;rw[e];exact⟨h.1.1,h.1.2.1,h.1.2.2,rfl⟩,by rw[<-bJ];exact h.2⟩
  ·exact h.elim
 | indexAddr T x y =>
  rw[ho]at h;obtain⟨ti,h1,h⟩:=aX h;obtain⟨i,h2,h⟩:=lf h;have hi:(0:Int)<=(i:Int):=Int.natCast_nonneg i;unfold St.wIA at h;split at h
  ·rename_i rs e;obtain⟨te,h3,r,h4,h5,h⟩:=aX h;exact⟨{ v := .ip r },by unfold bu;rw[ho];refine⟨ti,i,h1,h2,hi,?_⟩;rw[e];exact⟨te,r,h3,by simpa using h4,h5,rfl⟩,by rw[<-bJ];exact h⟩
  ·rename_i rs e;obtain⟨te,h3,r,h4,h5,h⟩:=aX h;exact⟨{ v := .ip r },by unfold bu;rw[ho];refine⟨ti,i,h1,h2,hi,?_⟩;rw[e];exact⟨te,r,h3,by simpa using h4,h5,rfl⟩,by rw[<-bJ];exact h⟩
  ·rename_i t g len e;obtain⟨te,h3,⟨h4,h5,h6,h7⟩,h8,h⟩:=aX h;exact⟨{ v := .ep t g i 0 },by unfold bu;rw[ho];refine⟨ti,i,h1,h2,hi,?_⟩;rw[e];exact⟨te,h3,h4,h5,h6,aw,h7,au⟩,by rw[<-bJ];exact h⟩
  ·rename_i t g off e;obtain⟨a,h3,h⟩:=aX h;obtain⟨te,h4,⟨h5,h6,h7⟩,h8,h⟩:=aX h;exact⟨{ v := .bp t g (off+i*te.size) },by unfold bu;rw[ho];refine⟨ti,i,h1,h2,hi,?_⟩;rw[e];exact⟨a.1,a.2,te,h3,h4,aw,h5,h6,h7,au⟩,by rw[<-bJ];exact h⟩
  ·rename_i cs e;obtain⟨a,h3,h⟩:=aX h;obtain⟨te,h4,h5,h6,h⟩:=aX h;exact⟨{ v := .ip (cs.drop (i*te.size)) },by unfold bu;rw[ho];refine⟨ti,i,h1,h2,hi,?_⟩;rw[e];exact⟨a.1,a.2,te,h3,h4,aw,by simpa using h6,au⟩,by rw[<-bJ];exact h⟩
  ·exact h.elim
 | slice T x lo hi mx =>
  rw[ho]at h;obtain⟨ti,h1,h⟩:=aX h;obtain⟨e,h2,h⟩:=aX h;obtain⟨te,h3,h4,h⟩:=aX h;obtain⟨n,h5,h⟩:=aX h;obtain⟨l,h6,h⟩:=vT h;obtain⟨hh,h7,⟨h8,h9⟩,h⟩:=vT h
  replace h6:(match lo with|none=>l=0|some y=>lH (st.ev y) (l:Nat)):=by cases lo<;>exact h6
  replace h7:(match hi with|none=>hh=n|some y=>lH (st.ev y) (hh:Nat)):=by cases hi<;>exact h7
  cases mx with
  | some y =>
   obtain⟨h10,h⟩:=h;obtain⟨m,h11,rfl,h⟩:=lf h;unfold od at h;split at h
   ·rename_i rs ev;exact⟨{ v := .fl ((rs.take m).drop l) },by unfold bu;rw[ho];exact⟨ti,e,n,l,m,h1,h2,h5,h4,(by cases lo<;>exact h6),(by cases hi<;>exact h7),h8,h9,h10,h11,rs,te,h3,ev,h.1,rfl⟩,by rw[<-bJ];exact h.2⟩
   ·exact h.elim
  | none =>
   simp only[Hb]at h;unfold oY at h;split at h
   ·rename_i rs ev;exact⟨{ v := .i (.c (.lst ((rs.take hh).drop l))) },by unfold bu;rw[ho];refine⟨ti,e,n,l,hh,h1,h2,h5,h4,(by cases lo<;>exact h6),(by cases hi<;>exact h7),h8,h9,?_⟩;dsimp only;rw[ev];exact⟨⟨te,h3,h.1⟩,rfl⟩,by rw[<-bJ];exact h.2⟩
   ·rename_i rs ev;exact⟨{ v := .i (.c (.lst ((rs.take hh).drop l))) },by unfold bu;rw[ho];refine⟨ti,e,n,l,hh,h1,h2,h5,h4,(by cases lo<;>exact h6),(by cases hi<;>exact h7),h8,h9,?_⟩;dsimp only;rw[ev];exact⟨⟨te,h3,h.1⟩,rfl⟩,by rw[<-bJ];exact h.2⟩
   ·rename_i t g len ev;split at h
    ·rename_i hl0;exact⟨{ v := .sl t g hh },by unfold bu;rw[ho];refine⟨ti,e,n,l,hh,h1,h2,h5,h4,(by cases lo<;>exact h6),(by cases hi<;>exact h7),h8,h9,?_⟩;dsimp only;rw[ev];exact⟨te,h3,.inl ⟨hl0,rfl⟩⟩,by rw[<-bJ];exact h⟩
    ·rename_i hl0;exact⟨{ v := .sub t g l (hh-l) te.size },by unfold bu;rw[ho];refine⟨ti,e,n,l,hh,h1,h2,h5,h4,(by cases lo<;>exact h6),(by cases hi<;>exact h7),h8,h9,?_⟩;dsimp only;rw[ev];exact⟨te,h3,.inr ⟨hl0,h.1,rfl⟩⟩,by rw[<-bJ];exact h.2⟩
   ·exact h.elim
 | makeSlice T x y =>
  rw[ho]at h;obtain⟨d,h1,h⟩:=aX h;obtain⟨te,h2,h⟩:=aX h;obtain⟨z,h3,h4,h⟩:=aX h;obtain⟨z,h3z,rfl⟩:=Option.map_eq_some_iff.1 h3;rw[DZ]at h4;obtain⟨n,h5,h⟩:=lf h;obtain⟨m,h6,⟨h7,h8,h9⟩,h⟩:=lf h;exact⟨_,by unfold bu;rw[ho];exact⟨d,te,z,n,m,h1,h2,h3z,h4,h5,h6,h7,h8,h9,rfl⟩,by rw[h1];exact h⟩
 | store T x y=>exact absurd ho (hs _ _ _)
 | _=>rw[ho]at h;exact(pI ho hns h).elim
theorem Ru (hs:eO kind o=true) (h:W P kind D o.dst K st o.op):D=none/\qy P o st K:=by
 have fin:∀{op:Op},o.op=op->il P kind D o.dst K st op ⟨⟩->D=none/\qy P o st K:=fun ho h=>⟨h.1,(h.2 o ho rfl).2⟩;unfold eO at hs;split at hs
 ·rename_i f _ _ ho;have hk:kind f = .sem:=by simpa using hs
  have hsc:fP kind (.func f)=true:=by simp[fP,hk]
  rw[ho]at h;simp only[W,ng,oc,hsc,cond_true]at h;exact fin ho h
 all_goals first
  | (simp at hs;done)
  | (rename_i ho;rw[ho]at h;exact fin ho h)
theorem oD (h:W P kind D o.dst K st o.op):AOp P kind D o K st:=by
 by_cases hs:∃ T x y,o.op = .store T x y
 ·obtain⟨T,x,y,ho⟩:=hs;rw[ho]at h;unfold AOp;rw[ho];dsimp only;obtain⟨h1,h2,h⟩:=h;obtain⟨ti,h3,h⟩:=aX h;obtain⟨v,h4,h5,h⟩:=aX h;refine⟨h1,h2,ti,v,h3,h4,h5,?_⟩;unfold St.wStore at h;split at h
  ·rename_i e;rw[e];exact⟨h.1.1,h.1.2,h.2.1,h.2.2⟩
  ·rename_i e;rw[e];exact⟨h.1.1,h.1.2.1,h.1.2.2,h.2⟩
  ·exact h.elim
 ·unfold AOp;split
  ·rename_i e;exact absurd ⟨_,_,_,e⟩ hs
  ·cases hsem:eO kind o with
   | true=>exact Ru hsem h
   | false=>exact Rv (fun T x y e=>hs ⟨T,x,y,e⟩) hsem h
theorem gj {ops:Array Oper}:∀{l:List Oper} {st:St},Ws P kind D ops.toList l K st->jD P kind D ops l K st
 | [],st,h=>h
 | o::l,st,h=>by
  simp only[Ws]at h;unfold jD;cases hg:o.guard with
  | none =>
   rw[hg]at h;refine⟨true,by simp[gd,hg],fun _=>?_,fun h=>by simp at h⟩;have:(Ws P kind D ops.toList l K)=fun s=>Ws P kind D ops.toList l K s:=rfl;exact kx (fun s=>gj) (oD h)
  | some p =>
   obtain⟨j,want⟩:=p;rw[hg]at h;obtain⟨d,hd,h⟩:=aX h;have hd':(ops[j]?).bind (·.dst)=some d:=by simpa using hd
   unfold jR at h;split at h
   ·rename_i b e;have hput:∀ v:Bool,b=v->st.setT d (sc (.bool v))=st:=by
     intro v hv;unfold St.setT;have:upd st.t d (sc (.bool v))=st.t:=by
      funext n;by_cases h':n=d
      ·subst h';rw[aN,e,hv]
      ·rw[aT _ _ h']
     rw[this]
    replace h:(b=want->W P kind D o.dst (Ws P kind D ops.toList l K) (st.setT d (sc (.bool want))) o.op) /\
      (b = !want->Ws P kind D ops.toList l K ((st.setT d (sc (.bool !want))).put o.dst (.tup []))):=by
     cases b<;>cases want<;>simpa [wIf]using h
    by_cases hb:b=want
    ·refine⟨true,by simp[gd,hg,hd',e,hb],fun _=>?_,fun h=>by simp at h⟩;have h1:=h.1 hb;rw[hput want hb]at h1;exact kx (fun s=>gj) (oD h1)
    ·have hb':b = !want:=by cases b<;>cases want<;>simp at hb ⊢
     refine⟨false,by simp[gd,hg,hd',e,hb],fun h=>by simp at h,fun _=>?_⟩;have h2:=h.2 hb';rw[hput _ hb']at h2;exact gj h2
   ·rename_i e;exact⟨false,by simp[gd,hg,hd',e],fun h=>by simp at h,fun _=>gj h⟩
   ·exact h.elim
end
section
variable {P:Program} {kind:FuncId->CK} {st:St} {K:St->Prop} {Q:bg->St->Prop}
theorem jP {D:Option DI} {K':St->Prop} {ops:Array Oper} (hk:∀ s,K s->K' s):∀{l:List Oper} {st:St},jD P kind D ops l K st->jD P kind D ops l K' st
 | [],_,h=>hk _ h
 | _::_,_,⟨t,h1,h2,h3⟩=>⟨t,h1,fun e=>kx (fun _=>jP hk) (h2 e),fun e=>jP hk (h3 e)⟩
theorem WP.drw {id:Nat} {ops:List Oper} (kind:FuncId->CK) (k:Nat) (di:DI) (bk:Bool) (hm:P.follows .mixedOrders=true) (hk:a7 kind ops=k) (hdi:diN kind ops bk=di) (hok:kW kind ops=true)
  (h:Ws P kind (some di) ops (ops.take k) (fun st'=>Ws P kind none ops (ops.drop k) (Q .normal) st') st):WP P (.region id ops.toArray true) Q st:=by
 refine WP.draw kind hm hok ?_;subst hk hdi;have h1:=gj (ops:=ops.toArray) h;refine⟨bk,jP (fun s hs=>?_) h1⟩;exact⟨s,bA.refl _,gj (ops:=ops.toArray) hs⟩
theorem WP.seq_k {x y:Code} (h:∀ K:St->Prop,(∀ s,WP P y Q s->K s)->WP P x (jl K Q) st):WP P (.seq x y) Q st :=
 WP.seq (h _ fun _ hs=>hs)
end
def Oh (kind:FuncId->CK) (op:Op):List Operand :=
 match op with
 | .box _ x=>[x]
 | .build _ ps=>ps.toList.map (·.2)
 | .buildSlice _ _ ps=>ps.toList.map (·.2)
 | .store _ _ y=>[y]
 | .call c=>match c.callee with
  | .value x=>bif fP kind x then[]else c.args.toList
  | _=>[]
 | _=>[]
def vJ (v:AV) (st:St):St:=match v with | .sl t _ _=>st.freeze t|_=>st
def frzs:List Operand->St->St
 | [],st=>st
 | x::l,st=>frzs l (vJ (st.ev x) st)
def bX (kind:FuncId->CK) (op:Op) (st:St):St:=frzs (Oh kind op) st
theorem Gx (v:AV) (st:St):bA st (vJ v st):=by
 unfold vJ;cases v with
 | sl t g len =>
  exact bA.freeze st t
 | _=>exact bA.refl st
theorem wC:∀(l:List Operand) (st:St),bA st (frzs l st)
 | [],st=>bA.refl st
 | _::l,st=>(Gx _ st).trans (wC l _)
theorem sg (kind:FuncId->CK) (op:Op) (st:St):bA st (bX kind op st):=wC _ st
def kw (P:Program) (kind:FuncId->CK) (ops:Array Oper):List Oper->(St->Prop)->St->Prop
 | [],K,st=>K st
 | o::l,K,st=>∃ t,gd ops st o=some t/\(t=true->AOp P kind none o (kw P kind ops l K) (bX kind o.op st))/\(t=false->kw P kind ops l K (st.put o.dst (.tup [])))
def WsF (P:Program) (kind:FuncId->CK) (ops:List Oper):List Oper->(St->Prop)->St->Prop
 | [],K,st=>K st
 | o::l,K,st=>match o.guard with
  | none=>W P kind none o.dst (WsF P kind ops l K) (bX kind o.op st) o.op
  | some (j,want)=>bj ((ops[j]?).bind (·.dst)) fun d=>jR (st.t d) want
    (W P kind none o.dst (WsF P kind ops l K) (bX kind o.op (st.setT d (sc (.bool want)))) o.op)
    (WsF P kind ops l K ((st.setT d (sc (.bool !want))).put o.dst (.tup [])))
    (WsF P kind ops l K (st.put o.dst (.tup [])))
section
variable {P:Program} {kind:FuncId->CK} {D:Option DI} {W0:cW} {M0:Nat->Prop} {N:Nat} {st:St} {G:Gh} {w:World} {a:Act} {o:Oper} {Q:Exit->Act->World->Prop} {K:St->Prop}
theorem dm {ops:Array Oper}:∀{l:List Oper} {st:St},WsF P kind ops.toList l K st->kw P kind ops l K st
 | [],st,h=>h
 | o::l,st,h=>by
  simp only[WsF]at h;unfold kw;cases hg:o.guard with
  | none =>
   rw[hg]at h;refine⟨true,by simp[gd,hg],fun _=>?_,fun h=>by simp at h⟩;exact kx (fun s=>dm) (oD h)
  | some p =>
   obtain⟨j,want⟩:=p;rw[hg]at h;obtain⟨d,hd,h⟩:=aX h;have hd':(ops[j]?).bind (·.dst)=some d:=by simpa using hd
   unfold jR at h;split at h
   ·rename_i b e;have hput:∀ v:Bool,b=v->st.setT d (sc (.bool v))=st:=by
     intro v hv;unfold St.setT;have:upd st.t d (sc (.bool v))=st.t:=by
      funext n;by_cases h':n=d
      ·subst h';rw[aN,e,hv]
      ·rw[aT _ _ h']
     rw[this]
    replace h:(b=want->W P kind none o.dst (WsF P kind ops.toList l K) (bX kind o.op (st.setT d (sc (.bool want)))) o.op) /\
      (b = !want->WsF P kind ops.toList l K ((st.setT d (sc (.bool !want))).put o.dst (.tup []))):=by
     cases b<;>cases want<;>simpa [wIf]using h
    by_cases hb:b=want
    ·refine⟨true,by simp[gd,hg,hd',e,hb],fun _=>?_,fun h=>by simp at h⟩;have h1:=h.1 hb;rw[hput want hb]at h1;exact kx (fun s=>dm) (oD h1)
    ·have hb':b = !want:=by cases b<;>cases want<;>simp at hb ⊢
     refine⟨false,by simp[gd,hg,hd',e,hb],fun h=>by simp at h,fun _=>?_⟩;have h2:=h.2 hb';rw[hput _ hb']at h2;exact dm h2
   ·rename_i e;exact⟨false,by simp[gd,hg,hd',e],fun h=>by simp at h,fun _=>dm h⟩
   ·exact h.elim
theorem fL {ρ:Option Nat} {ops:Array Oper} (hN:∀(i:Nat) o,ops[i]?=some o->∀ d,o.dst=some d->d<N):∀(l:List Oper) (k:Nat) {st:St} {G:Gh} {w:World} {a:Act},(∀ i,l[i]?=ops[k+i]?) ->
  Sim W0 M0 N st G w a->kw P kind ops l K st->(∀ a' w',Met W0 M0 N K a' w'->Q .normal a' w')->wpOpsIn (fen ρ) 0 P ops Q (List.range' k l.length) a w
 | [],k,st,G,w,a,_,S,h,hQ=>by
  simp only[List.length_nil,List.range'_zero,wpOpsIn];exact hQ _ _ ⟨st,G,h,S⟩
 | o::l,k,st,G,w,a,hl,S,h,hQ=>by
  have h0:ops[k]?=some o:=by have:=hl 0;simpa using this.symm
  have hl':∀ i,l[i]?=ops[k+1+i]?:=fun i=>by have:=hl (i+1);simpa [Nat.add_assoc,Nat.add_comm 1]using this
  simp only[List.length_cons,List.range'_succ];rw[wpOpsIn_cons];simp only[wpOpIn,h0];obtain⟨t,hg,ht,hf⟩:=h;rw[gX S hg];cases t with
  | true =>
   simp only[if_true];obtain⟨G2,S2⟩:=sg kind o.op st W0 M0 N G w a S;refine cn (pG (ht rfl)) (Oper.wp_mono ?_ (iG (Q:=Q) S2 (hN k o h0) (ht rfl)));rintro a' w' ⟨st',G',hK,hS⟩;exact fL hN l (k+1) hl' hS hK hQ
  | false =>
   simp only[Bool.false_eq_true,if_false];exact⟨fun _ _=>trivial,fL hN l (k+1) hl' (jV S (hN k o h0)) (hf rfl) hQ⟩
end
theorem WP.regF {P:Program} {Q:bg->St->Prop} {st:St} {id:Nat} {ops:List Oper} (kind:FuncId->CK) (h:WsF P kind ops ops (Q .normal) st):WP P (.region id ops.toArray false) Q st:=by
 intro ρ W0 M0 N G w a S hd;refine wpIn_region ?_;have:=fL (ρ:=ρ) (P:=P) (kind:=kind) (K:=Q .normal) (Q:=fun e a' w'=>∃ x st' G',bz e=some x/\Q x st'/\Sim W0 M0 N st' G' w' a') (dW hd) ops.toArray.toList 0 (fun i=>by simp) S (dm (ops:=ops.toArray) h) (fun a' w' ⟨st',G',h1,h2⟩=>⟨.normal,st',G',rfl,h1,h2⟩);rwa [Array.length_toList,<-List.range_eq_range']at this
def m6 (P:Program) (_kind:FuncId->CK) (c:Code) (Q:bg->St->Prop) (st:St) (_:Tg (c,Q,st)):Prop:=WP P (.loop c) Q st
def tE (P:Program) (kind:FuncId->CK) (ops:List Oper) (K:St->Prop) (st:St) (_:Tg (ops,K,st)):Prop:=(P.follows .mixedOrders=true/\∃ k di bk,a7 kind ops=k/\diN kind ops bk=di/\kW kind ops=true /\
 Ws P kind (some di) ops (ops.take k) (Ws P kind none ops (ops.drop k) K) st) \/
 ∀(id:Nat) (Q:bg->St->Prop),(∀ s,K s->Q .normal s)->WP P (.region id ops.toArray true) Q st
def Qa (P:Program) (c:Code) (Q:bg->St->Prop) (st:St) (_:Tg (c,Q,st)):Prop:=WP P c Q st
def CW (P:Program) (kind:FuncId->CK):Code->(bg->St->Prop)->St->Prop
 | .skip,Q,st=>Q .normal st
 | .region _ ops d,Q,st=>match d with
  | true=>tE P kind ops.toList (Q .normal) st ⟨⟩
  | false=>WsF P kind ops.toList ops.toList (Q .normal) st
 | .seq x y,Q,st=>CW P kind x (jl (CW P kind y Q) Q) st
 | .cond c x y,Q,st=>pL (st.ev c) fun b=>wIf b (CW P kind x Q st) (CW P kind y Q st) ⟨⟩
 | .block id c,Q,st=>CW P kind c (mF id Q) st
 | .loop c,Q,st=>m6 P kind c Q st ⟨⟩
 | .exit id,Q,st=>Q (.exit id) st
 | .ret,Q,st=>Q .ret st
 | .scope c,Q,st=>CW P kind c Q st
 | .label _,Q,st=>Q .normal st
 | c,Q,st=>Qa P c Q st ⟨⟩
section
variable {P:Program} {kind:FuncId->CK} {st:St} {K:St->Prop}
theorem Bt {ρ:Option Nat} {Q:Exit->Act->World->Prop} {c:Code} {a:Act} {w:World} (h:c.wpIn (fen ρ) 0 P (Exit.noGoto Q) a w):(Code.scope c).wpIn (fen ρ) 0 P Q a w:=by
 intro b k cs hro hb hr;have h0:(lone (b.atR a (.code (.scope c)::k)) cs w).fenced P (fen ρ):=fenced_calm hb hr rfl;have s0:step P (lone (b.atR a (.code (.scope c)::k)) cs w) = .next (lone (b.atR a (.code c :: .inScope c::k)) cs w):=step_lone_go (by simp[stepG,stepG.exec,Frame.atR])
 obtain⟨e,a₁,w₁,hq,harr⟩:=h b (.inScope c::k) cs hro hb hr;cases e with
 | normal=>exact⟨.normal,a₁,w₁,hq,.head h0 s0 (StepsIn.trans harr (.one (fenced_calm hb hr rfl) (step_lone_go (by simp[stepG,stepG.exec,Frame.atR]))))⟩
 | exit id' =>
  have hx:exitTo id' (.inScope c::k)=exitTo id' k:=by simp[exitTo]
  exact⟨.exit id',a₁,w₁,hq,fun k' hk => .head h0 s0 (harr.1 k' (by rw[hx];exact hk)),
   fun hr' hk=>let ⟨k₁,h1,h2⟩:=harr.2 hr' (by rw[hx];exact hk);⟨k₁,h1,.head h0 s0 h2⟩⟩
 | goto l=>exact hq.elim
 | ret=>exact⟨_,a₁,w₁,hq,.of_steps (.one h0 s0) harr⟩
 | panic ch=>exact⟨_,a₁,w₁,hq,.of_steps (.one h0 s0) harr⟩
 | outgrown=>exact⟨_,a₁,w₁,hq,.of_steps (.one h0 s0) harr⟩
theorem bQ:∀(c:Code) {Q:bg->St->Prop} {st:St},CW P kind c Q st->WP P c Q st:=by
 intro c
 induction c with
 | skip=>intro Q st h;exact WP.skip h
 | region id ops d =>
  intro Q st h;cases d with
  | false=>exact WP.regF (ops:=ops.toList) kind h
  | true =>
   rcases h with⟨hm,k,di,bk,hk,hdi,hok,h⟩|h
   ·exact WP.drw (ops:=ops.toList) kind k di bk hm hk hdi hok h
   ·have:=h id Q fun _ hs=>hs;simpa using this
 | seq x y ihx ihy =>
  intro Q st h;refine WP.seq ((ihx h).mono fun e s hs=>?_);cases e with
  | normal=>exact ihy hs
  | exit id=>exact hs
  | ret=>exact hs
 | cond c x y ihx ihy =>
  intro Q st h;obtain⟨b,e,h⟩:=tF h;exact WP.cond b e (fun hb=>ihx (h.1 hb)) (fun hb=>ihy (h.2 hb))
 | block id c ih=>intro Q st h;exact WP.block (ih h)
 | loop c ih=>intro Q st h;exact h
 | exit id=>intro Q st h;exact WP.exit h
 | ret=>intro Q st h;exact WP.ret h
 | scope c ih =>
  intro Q st h ρ W0 M0 N G w a S hd;refine Bt (wpIn_mono (ih h ρ W0 M0 N G w a S hd) ?_);rintro e a' w' ⟨x,st',G',h1,h2,h3⟩;cases e<;>first|exact⟨x,st',G',h1,h2,h3⟩|simp[bz]at h1
 | label l=>intro Q st h ρ W0 M0 N G w a S hd;exact wpIn_label ⟨.normal,st,G,rfl,h,S⟩
 | _=>intro Q st h;exact h
def Mm (P:Program) (rl:List ResultVar) (res:List IV) (e:bg) (st:St):Prop:=(e = .normal\/e = .ret)/\eF (st.res1 P) rl=some res
theorem KE {f:FuncId} {fn:Func} {c:Code} {rl:List ResultVar} {nt:Nat} {args res:List IV} (kind:FuncId->CK) (hf:P.funcs[f]?=some fn) (hb:fn.body=some c) (hr:fn.results=⟨rl⟩) (hnt:fn.ntmps=nt)
  (hn : (fn.name == "runtime.NumGoroutine") = false) (hlen : args.length <= nt) (hasg : (asg c).all (fun d => Nat.blt d nt) = true) (h : CW P kind c (Mm P rl res) (iy args)) : Fn P f args res := by
 subst hnt;refine Be hf hb hn hlen hasg ((bQ c h).mono fun e s hs=>?_);unfold Rc;rw[hr];exact hs
def NP (t:Tmp) (sz:Nat) (rs:List (List C)) (e:bg) (st:St):Prop:=(e = .normal\/e = .ret) /\
 ((rs=[]/\st.t t = .fl [])\/∃ k g,st.t t = .sl k g rs.length/\0<g/\st.e k=⟨g,sz,rs,!rs.isEmpty,true⟩)
theorem rS {f:FuncId} {fn:Func} {c:Code} {t:Tmp} {nt:Nat} {args:List IV} {sz:Nat} {rs:List (List C)} (kind:FuncId->CK) (hf:P.funcs[f]?=some fn) (hb:fn.body=some c) (hr:fn.results = #[.tmp t]) (hnt:fn.ntmps=nt)
  (hn : (fn.name == "runtime.NumGoroutine") = false) (hlen : args.length <= nt) (hasg : (asg c).all (fun d => Nat.blt d nt) = true) (h : CW P kind c (NP t sz rs) (iy args)) : FnM P f args sz rs := by
 subst hnt;refine jO hf hb hn hlen hasg ((bQ c h).mono fun e s hs=>?_);exact⟨hs.1,t,hr,hs.2⟩
theorem y4 {ops:List Oper} (hm:P.follows .mixedOrders=true) (k:Nat) (al:List Nat) (eff fr:Bool) (hk:a7 kind ops=k) (hdi:nQ kind ops=⟨al,eff,fr,none⟩) (hok:kW kind ops=true)
  (h:Ws P kind (some ⟨al,eff,fr,none⟩) ops (ops.take k) (Ws P kind none ops (ops.drop k) K) st):tE P kind ops K st ⟨⟩ := .inl ⟨hm,k,_,false,hk,hdi,hok,h⟩
theorem ap {ops:List Oper} (k:Nat) (al:List Nat) (eff fr:Bool) (h:Ws P kind (some ⟨al,eff,fr,none⟩) ops (ops.take k) (Ws P kind none ops (ops.drop k) K) st)
  (hm:P.follows .mixedOrders=true:=by rfl ) (hk:a7 kind ops=k:=by rfl ) (hdi:nQ kind ops=⟨al,eff,fr,none⟩:=by rfl ) (hok:kW kind ops=true:=by decide +kernel ):tE P kind ops K st ⟨⟩:=y4 hm k al eff fr hk hdi hok h
theorem js {ops:List Oper} (hm:P.follows .mixedOrders=true) (k:Nat) (al ks:List Nat) (fz:Nat) (hk:a7 kind ops=k) (hdi:diN kind ops true=⟨al,true,false,some ks⟩) (hok:kW kind ops=true)
  (h:Ws P kind (some ⟨al,true,false,some ks⟩) ops (ops.take k) (fun s=>Ws P kind none ops (ops.drop k) K (s.freeze fz)) st):tE P kind ops K st ⟨⟩:=by
 refine .inr fun id Q hQ=>WP.draw kind hm (by simpa using hok) ?_;subst hk;rw[<-hdi]at h;have h1:=gj (ops:=ops.toArray) h;exact⟨true,jP (fun s hs=>⟨_,bA.freeze s fz,jP hQ (gj (ops:=ops.toArray) hs)⟩) h1⟩
theorem bB {ops:List Oper} (hm:P.follows .mixedOrders=true) (i0 k:Nat) (al:List Nat) (fr:Bool) (xs:List Operand) (z:Option Operand) (hk:a7 kind ops=k) (hdi:nQ kind ops=⟨al,false,fr,none⟩) (hx:j3 kind ops i0=xs) (hz:(ops[i0]?).bind lC=z)
  (hok:qo kind ops i0=true) (h:Ws P kind (some ⟨al,false,fr,none⟩) ops (ops.take k) (fun s=>(∀ x∈xs,rn (z.map s.ev) (s.ev x))/\Ws P kind none ops (ops.drop k) K s) st):tE P kind ops K st ⟨⟩:=by
 refine .inr fun id Q hQ=>?_;intro ρ W0 M0 N G w a S hd;subst hk hx hz;have h1:=gj (ops:=ops.toArray) h;rw[<-hdi]at h1;refine As (i0:=i0) (kind:=kind) (K:=K) hm (dW hd) (by simpa using hok) S (jP (fun s hs=>?_) (by simpa using h1)) ?_
 ·exact⟨by simpa using hs.1,by have:=gj (ops:=ops.toArray) hs.2;simpa using this⟩
 ·rintro a' w' ⟨s,G',hK,S'⟩;exact⟨.normal,s,G',rfl,hQ s hK,S'⟩
theorem ld {b:Bool} {A B:Prop} (h1:b=true->A) (h2:b=false->B):wIf b A B ⟨⟩:=⟨h1,h2⟩
theorem bi {p:Prop} [Decidable p] {A B:Prop} (h1:p->A) (h2:¬ p->B):wIf (decide p) A B ⟨⟩:=⟨fun h=>h1 (of_decide_eq_true h),fun h=>h2 (of_decide_eq_false h)⟩
theorem aK {f:FuncId} {args res:List IV} {K:List IV->Prop} (h:Fn P f args res) (hK:K res):wFn P f args K ⟨⟩:=⟨res,h,hK⟩
theorem co {f:FuncId} {args:List IV} {sz:Nat} {rs:List (List C)} {K:Nat->List (List C)->Prop} (h:FnM P f args sz rs) (hK:K sz rs):Oc P f args K ⟨⟩:=⟨sz,rs,h,hK⟩
end
section
variable {W0:cW} {M0:Nat->Prop} {N:Nat} {st:St} {G:Gh} {w:World} {a:Act}
theorem Sim.copyEn (S:Sim W0 M0 N st G w a) {t b:Nat} {xs:List (List C)} {zs:List Value} {ys:Array Value} {T:TypeId} (hg:0<(st.e t).gen) (hm:(st.e t).m=true)
  (hx:aY w (G.M M0) xs.flatten zs) (hxs:∀ r∈xs,r.length=(st.e t).sz) (hle:xs.length<=(st.e t).rs.length) (hE0:G.E t=some ⟨b,0,none⟩) (hy:w.heap[b]?=some (.cells ys T (0,0))) :
  zs.length<=ys.size /\
  Sim W0 M0 N { st with e:=upd st.e t { st.e t with rs:=xs++(st.e t).rs.drop xs.length } } G (w.setRow b (zs++ys.toList.drop zs.length).toArray) a:=by
 have hen:=S.en t hg;obtain⟨h1,h2,h3,h4⟩:=hen;obtain⟨b',ys',T',f1,f2,f3,f4⟩:=h3 hm;obtain rfl:b=b':=by rw[hE0]at f1;simp at f1;exact f1
 obtain⟨rfl,rfl⟩:ys=ys'/\T=T':=by rw[hy]at f3;simp at f3;exact f3
 have hxl:=hx.length;rw[cy hxs]at hxl;have hbl:=(S.own b (by simp[f2])).2;have hge:W0.Ow b:=(S.own _ (by simp[f2])).1;have hrows:aS w (G.M M0) (st.e t).rs b 0 (st.e t).sz:=by
  rcases h1 with h1|⟨b',o',e1,e2,_,e4⟩
  ·rw[h1];simp only[aS]
  ·obtain⟨rfl,rfl⟩:b=b'/\0=o':=by rw[hE0]at e1;simp at e1;exact e1
   exact e4
 generalize hs:(st.e t).sz=sz at *
 have hsz:zs.length<=ys.size:=by
  rw[<-hxl,f4];exact Nat.mul_le_mul_right _ aw
 refine⟨hsz,?_⟩;have hnew:=setRow_heap w b ys (zs++ys.toList.drop zs.length).toArray T _ hy;have hk:=my (M0:=M0) (w:=w) (c:=(zs++ys.toList.drop zs.length).toArray) f2;have ho:∀ b' k,k ≠ .e t->G.own b'=some k->G.own b'=some k/\(w.setRow b (zs++ys.toList.drop zs.length).toArray).heap[b']?=w.heap[b']? :=
  fun b' k hne h=>⟨h,dI (fun e=>hne (by subst e;rw[f2]at h;exact(Option.some.inj h).symm))⟩
 have hE:Evo st G { st with e:=upd st.e t { st.e t with rs:=xs++(st.e t).rs.drop xs.length } } G:=by
  refine⟨fun _ _ h=>⟨h,fun e _=>⟨e,rfl⟩⟩,fun t' g h=>?_,fun _ _ h=>⟨h,fun e _=>⟨e,rfl,rfl⟩⟩⟩;by_cases e:t'=t
  ·subst e;simp only[aN];exact⟨h,fun e _=>⟨e,trivial,trivial,trivial,ar⟩⟩
  ·simp only[aT _ _ e];exact⟨h,fun e _=>⟨e,trivial,trivial,trivial,au⟩⟩
 refine S.next (dst:=none) (y:=undef) (v := .any) (fun _ h=>by cases h) (.setRow hge) hk hE (fun _=>rfl) (fun h=>(h rfl).elim) ?_ ?_ ?_ ?_
 ·intro t' ht';exact S.bx_keep hk rfl (fun b h=>ho b _ au h) rfl ht'
 ·intro t' ht';by_cases e:t'=t
  ·subst e;simp only[aN];refine⟨.inr ⟨b,0,hE0,by rw[dD];exact hbl,fun h=>by rw[hm]at h;simp at h,?_⟩,ar,fun _=>⟨b,_,T,hE0,f2,hnew,?_⟩,fun h=>by rw[hm]at h;simp at h⟩
   ·refine aS.append ?_ ?_
    ·rw[hs];refine aS.of_flat hxs (aY.mono hk _ _ hx) fun j hj=>?_;rw[bR hnew];simp only[Nat.zero_add,List.getElem?_toArray];rw[List.getElem?_append_left aw]
    ·rw[hs];have hd:=hrows.drop xs.length;obtain⟨vs,g1,g2,g3⟩:=hd.flat;refine aS.of_flat hd.lens (aY.mono hk _ _ g1) fun j hj=>?_;rw[<-g3 j hj,bR hnew,bR hy];simp only[Nat.zero_add,List.getElem?_toArray];rw[List.getElem?_append_right aw,List.getElem?_drop];simp;congr 1;omega
   ·simp[hs];omega
  ·simp only[aT _ _ e]at ht' ⊢;exact mN.mono (G:=G) hk rfl rfl (fun b h=>ho b _ (by simpa using e) h) (S.en t' ht')
 ·intro t' ht';exact S.mp_keep hk (fun _=>rfl) (fun b _ h=>ho b _ au h) rfl ht'
 ·intro b' h;rw[dD];exact S.own b' h
end
theorem vH {P:Program} (w:World) (dT sT ty elem:TypeId) (i:TypeInfo) (b dLen dCap:Nat) (p:Option Addr) (sLen sCap:Nat) (cur:Array Value) (t:TypeId) (cs:List Value)
  (hu:P.underlying dT=some (.slice elem)) (hi:P.info? elem=some i) (hg:w.heap[b]?=some (.cells cur t (0,0)))
  (hfirst:(Builtin.firstCells i.size (Nat.min sLen dLen) (.slice p sLen sCap)).run P w = .ok cs.toArray w) (hfit:cs.length<=cur.size) (h1:∀ v∈cs,v.oneCell'=true) :
  (Builtin.copy_ #[dT,sT] ty #[.slice (some ⟨b,0,none⟩) dLen dCap,.slice p sLen sCap]).run P w =
   .ok (goInt (Nat.min sLen dLen)) (w.setRow b (cs++cur.toList.drop cs.length).toArray):=by
 have hst:=run_storeCells_at P b 0 t cs 0 cur w hg (by simpa using hfit) h1;simp only[Nat.zero_add,List.take_zero,List.nil_append]at hst;simp[Builtin.copy_,run_underlying hu,Builtin.lenOf,sizeOf,typeInfo,hi,hfirst,hst]
section
variable {P:Program} {kind:FuncId->CK} {st:St} {K:St->Prop}
theorem JH {dst:Option Tmp} {x y:Operand} {T U:TypeId} {t g len:Nat} {xs:List (List C)} {te:TI} (hx:st.ev x = .sl t g len) (hg:(st.e t).gen=g) (h0:0<g) (hm:(st.e t).m=true)
  (hy:st.rows (st.ev y)=some xs) (hte:fE P T=some te) (hsz:te.size=(st.e t).sz) (hl:∀ r∈xs,r.length=te.size)
  (hK:K (St.put { st with e:=upd st.e t { st.e t with rs:=xs.take (min xs.length len)++(st.e t).rs.drop (min xs.length len) } } dst (sc (.int .i64 (min xs.length len:Nat))))) :
  il P kind none dst K st (.call ⟨.builtin .copy,#[x,y],#[T,U]⟩) ⟨⟩:=by
 refine⟨rfl,fun o ho hdst=>⟨by simp[eO,ho],?_⟩⟩;intro W0 M0 N G w a Q S hd;obtain⟨e,ie,de,hT,hie,_,rfl⟩:=gD hte;dsimp only at hsz hl;have hv:=S.ev x;rw[hx]at hv;obtain⟨hlen,hxv⟩:=hv.2 hg h0;obtain⟨p,cap,hyv,hcap,hyr⟩:=nq S (S.ev y) hy;have hgp:0<(st.e t).gen:=aw;obtain⟨h1,h2,h3,h4⟩:=S.en t hgp;obtain⟨b,ys,T',f1,f2,f3,f4⟩:=h3 hm;have hyr':xs.take (min xs.length len)=[]\/∃ b o sz',p=some ⟨b,o,none⟩/\b<w.heap.size/\aS w (G.M M0) (xs.take (min xs.length len)) b o sz':=by
  rcases hyr with rfl|⟨b,o,sz',e1,e2,e3⟩
  ·exact .inl au
  ·exact .inr ⟨b,o,sz',e1,e2,e3.take _⟩
 obtain⟨zs,hzs1,hzs2,hzs3⟩:=fu (P:=P) (cap:=cap) hyr' (fun r hr=>hl r (List.mem_of_mem_take hr));have hlk:(xs.take (min xs.length len)).length=min xs.length len:=au;obtain⟨hfit,hS⟩:=S.copyEn (t:=t) (xs:=xs.take (min xs.length len)) hgp hm hzs1 (fun r hr=>by rw[<-hsz];exact hl r (List.mem_of_mem_take hr)) (by rw[hlk];omega) f1 f3;have hfirst:(Builtin.firstCells ie.size (Nat.min xs.length len) (.slice p xs.length cap)).run P w = .ok zs.toArray w:=by
  have h5:=hzs3 w rfl;rw[hlk]at h5;have e2:Nat.min xs.length len=min xs.length len:=rfl;rw[e2];cases p with
  | none=>exact h5
  | some ad=>exact h5
 have hrun:=vH (P:=P) w T U o.type e ie b len (G.cap t) p xs.length cap ys T' zs hT hie f3 hfirst hfit hzs1.oneCell;have hexec:(execOp a.eval o).run P w = .ok (.value (goInt (Nat.min xs.length len))) (w.setRow b (zs++ys.toList.drop zs.length).toArray):=by
  rw[f1]at hxv;simp only[qx]at hxv;have hmn:min xs.length len=Nat.min xs.length len:=rfl;simp[execOp,ho,resolve,invoke,builtin,hxv,hyv,hrun]
 refine bF hexec ?_;rw[hlk]at hS;refine⟨_,G,?_,hS.put (v:=sc (.int .i64 (min xs.length len:Nat))) hd (bq.refl _ _) fun _=>?_⟩
 ·rw[hdst];exact hK
 ·exact⟨rfl,rfl⟩
theorem nf {dst:Option Tmp} {x y:Operand} {T U:TypeId} {τ:Nat->AV} {β:Nat->BX} {ε:Nat->EN} {π:Nat->MP} {t g len:Nat} {xs:List (List C)} {te:TI} (hx:(St.mk τ β ε π).ev x = .sl t g len) (hg:(ε t).gen=g) (h0:0<g) (hm:(ε t).m=true)
  (hy:(St.mk τ β ε π).rows ((St.mk τ β ε π).ev y)=some xs) (hte:fE P T=some te) (hsz:te.size=(ε t).sz) (hl:∀ r∈xs,r.length=te.size)
  (hK:K (St.put ⟨τ,β,upd ε t { ε t with rs:=xs.take (min xs.length len)++(ε t).rs.drop (min xs.length len) },π⟩ dst (sc (.int .i64 (min xs.length len:Nat))))) :
  il P kind none dst K ⟨τ,β,ε,π⟩ (.call ⟨.builtin .copy,#[x,y],#[T,U]⟩) ⟨⟩:=JH hx hg h0 hm hy hte hsz hl hK
theorem Ay {dst:Option Tmp} {x y:Operand} {T U:TypeId} {t g lo len sz:Nat} {xs:List (List C)} {te:TI} (hx:st.ev x = .sub t g lo len sz) (hg:(st.e t).gen=g) (h0:0<g) (hm:(st.e t).m=true)
  (hy:st.rows (st.ev y)=some xs) (hte:fE P T=some te) (hsz:te.size=(st.e t).sz) (hsz':sz=(st.e t).sz) (hl:∀ r∈xs,r.length=te.size) (hl0:∀ r∈(st.e t).rs,r.length=te.size) (hlo:lo+len<=(st.e t).rs.length)
  (hK:K (St.put { st with e:=upd st.e t { st.e t with rs:=(st.e t).rs.take lo++xs.take (min xs.length len)++(st.e t).rs.drop (lo+min xs.length len) } } dst (sc (.int .i64 (min xs.length len:Nat))))) :
  il P kind none dst K st (.call ⟨.builtin .copy,#[x,y],#[T,U]⟩) ⟨⟩:=by
 refine⟨rfl,fun o ho hdst=>⟨by simp[eO,ho],?_⟩⟩;intro W0 M0 N G w a Q S hd;obtain⟨e,ie,de,hT,hie,_,rfl⟩:=gD hte;dsimp only at hsz hl hl0;have hv:=S.ev x;rw[hx]at hv;obtain⟨-,b0,o0,c0,hE0,hxv⟩:=hv.2 hg h0;obtain⟨p,cap,hyv,hcap,hyr⟩:=nq S (S.ev y) hy;have hgp:0<(st.e t).gen:=aw;obtain⟨h1,h2,h3,h4⟩:=S.en t hgp;obtain⟨b,ys,T',f1,f2,f3,f4⟩:=h3 hm;obtain⟨rfl,rfl⟩:b=b0/\0=o0:=by rw[hE0]at f1;simp at f1;exact⟨f1.1.symm,f1.2.symm⟩
 have hyr':xs.take (min xs.length len)=[]\/∃ b o sz',p=some ⟨b,o,none⟩/\b<w.heap.size/\aS w (G.M M0) (xs.take (min xs.length len)) b o sz':=by
  rcases hyr with rfl|⟨b,o,sz',e1,e2,e3⟩
  ·exact .inl au
  ·exact .inr ⟨b,o,sz',e1,e2,e3.take _⟩
 obtain⟨zs,hzs1,hzs2,hzs3⟩:=fu (P:=P) (cap:=cap) hyr' (fun r hr=>hl r (List.mem_of_mem_take hr));have hlk:(xs.take (min xs.length len)).length=min xs.length len:=au;have hpre:aY w (G.M M0) ((st.e t).rs.take lo).flatten (ys.toList.take (lo*ie.size)):=by
  rcases h1 with h1|⟨b',o',e1,e2,_,e4⟩
  ·have:lo=0:=by rw[h1]at hlo;simp at hlo;omega
   subst this;simp[aY]
  ·obtain⟨rfl,rfl⟩:b=b'/\0=o':=by rw[hE0]at e1;simp at e1;exact e1
   obtain⟨vs,g1,g2,g3⟩:=(e4.take lo).flat;have hll:((st.e t).rs.take lo).length=lo:=by simp;omega
   have e5:vs=ys.toList.take (lo*ie.size):=by
    have hvl:vs.length=lo*ie.size:=by rw[g2,hll,hsz]
    refine List.ext_getElem? fun j=>?_;rcases Nat.lt_or_ge j (lo*ie.size)with hj|hj
    ·have:=g3 j (by rw[hvl];exact hj);rw[<-this,bR f3,List.getElem?_take,if_pos hj];simp
    ·rw[List.getElem?_eq_none aw,List.getElem?_eq_none ar]
   rw[<-e5];exact g1
 have hall:aY w (G.M M0) ((st.e t).rs.take lo++xs.take (min xs.length len)).flatten (ys.toList.take (lo*ie.size)++zs):=by
  rw[List.flatten_append];exact aY.append hpre hzs1
 have hlt:((st.e t).rs.take lo++xs.take (min xs.length len)).length=lo+min xs.length len:=by simp;omega
 obtain⟨hfit,hS⟩:=S.copyEn (t:=t) (xs:=(st.e t).rs.take lo++xs.take (min xs.length len)) hgp hm hall (fun r hr=>by
  rw[<-hsz];rcases List.mem_append.1 hr with hr|hr
  ·exact hl0 r (List.mem_of_mem_take hr)
  ·exact hl r (List.mem_of_mem_take hr)) (by rw[hlt];omega) f1 f3
 have hys:lo*ie.size<=ys.toList.length:=by
  have:=Nat.mul_le_mul_right ie.size (show lo<=G.cap t by omega);rw[hsz]at this ⊢;simp;omega
 have hfirst:(Builtin.firstCells ie.size (Nat.min xs.length len) (.slice p xs.length cap)).run P w = .ok zs.toArray w:=by
  have h5:=hzs3 w rfl;rw[hlk]at h5;have e2:Nat.min xs.length len=min xs.length len:=rfl;rw[e2];cases p with
  | none=>exact h5
  | some ad=>exact h5
 have hst:=run_storeCells_at P b (lo*ie.size) T' zs 0 ys w f3 (by simp at hfit;simp at hys;omega) hzs1.oneCell;have hexec:(execOp a.eval o).run P w = .ok (.value (goInt (Nat.min xs.length len))) (w.setRow b (ys.toList.take (lo*ie.size)++zs++ys.toList.drop (ys.toList.take (lo*ie.size)++zs).length).toArray):=by
  have hmn:min xs.length len=Nat.min xs.length len:=rfl;have hlen2:(ys.toList.take (lo*ie.size)++zs).length=lo*ie.size+zs.length:=by simp at hys ⊢;omega
  rw[hlen2];rw[hsz',<-hsz]at hxv;simp only[Nat.zero_add,Nat.add_zero]at hxv hst;simp[execOp,ho,resolve,invoke,builtin,hxv,hyv,Builtin.copy_,run_underlying hT,Builtin.lenOf,sizeOf,typeInfo,hie,hfirst,hst]
 refine bF hexec ?_;rw[hlt]at hS;refine⟨_,G,?_,hS.put (v:=sc (.int .i64 (min xs.length len:Nat))) hd (bq.refl _ _) fun _=>?_⟩
 ·rw[hdst];exact hK
 ·exact⟨rfl,rfl⟩
end
section
variable {P:Program} {st:St} {Q:bg->St->Prop}
theorem WP.nilTest {id a b c:Nat} {T U e ty ty':TypeId} {pos pos':String} {aft aft':Array Edge} {rs:List (List C)} (hu:P.underlying T=some (.slice e)) (hr:st.rows (st.t a)=some rs)
  (hQ:∀ t:Bool,(rs≠[]->t=false)->Q .normal ((st.setT b (st.t a)).setT c (sc (.bool t)))) :
  WP P (.region id #[⟨some b,.move (.tmp a),ty,pos,aft,none⟩,⟨some c,.binOp .eql T (.tmp b) (.const (.slice none 0 0)) U,ty',pos',aft',none⟩] false) Q st:=by
 intro ρ W0 M0 N G w act S hd;have hb:b<N:=hd b (by simp[asg]);have hc:c<N:=hd c (by simp[asg]);obtain⟨p,cap,hy,hcap,hrow⟩:=nq S (S.ev (.tmp a)) hr;have S1:Sim W0 M0 N (st.put (some b) (st.ev (.tmp a))) G w (act.put (some b) (act.eval (.tmp a))):=S.put (fun d h=>by cases h;exact hb) (bq.refl _ _) fun _=>S.ev (.tmp a);have hev:(act.put (some b) (act.eval (.tmp a))).eval (.tmp b)=act.eval (.tmp a):=by
  have hsz:=S.size;simp[Act.eval,Act.put,undef,hsz,hb]
 refine wpIn_region ?_;rw[show(#[(⟨some b,.move (.tmp a),ty,pos,aft,none⟩:Oper),⟨some c,.binOp .eql T (.tmp b) (.const (.slice none 0 0)) U,ty',pos',aft',none⟩]:Array Oper).size=2 from rfl,List.range_eq_range'];simp only[List.range'_succ,List.range'_zero];rw[wpOpsIn_cons];simp only[wpOpIn,List.getElem?_toArray,List.getElem?_cons_zero];rw[show Region.wanted (⟨some b,.move (.tmp a),ty,pos,aft,none⟩:Oper) _=true from rfl];simp only[if_true];refine cn (by intro c e;cases e) ?_;refine bF (y:=act.eval (.tmp a)) (w':=w) (by simp[execOp]) ?_;rw[wpOpsIn_cons];simp only[wpOpIn,List.getElem?_toArray,List.getElem?_cons_succ,List.getElem?_cons_zero];rw[show Region.wanted (⟨some c,.binOp .eql T (.tmp b) (.const (.slice none 0 0)) U,ty',pos',aft',none⟩:Oper) _=true from rfl];simp only[if_true];refine cn (by intro c e;cases e) ?_;refine bF (y := .bool p.isNone) (w':=w) ?_ ?_
 ·have hev':=hev.trans hy;simp only[execOp];rw[hev'];simp[eqGuard,Act.eval,Go.Lib.run_eql_slice_nil w T e p rs.length cap 0 0 hu]
 ·simp only[wpOpsIn];refine⟨.normal,_,G,rfl,hQ p.isNone ?_,S1.put (dst:=some c) (v:=sc (.bool p.isNone)) (fun d h=>by cases h;exact hc) (bq.refl _ _) fun _=>⟨rfl,rfl⟩⟩;intro hne;rcases hrow with h|⟨b',o,sz,rfl,_⟩
  ·exact absurd h hne
  ·rfl
end
end Go.AM
