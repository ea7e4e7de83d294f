/- Lemmas, part 7 of 23. No condition. -/
import Derived.Test.YtcmfkhicjhliaaaGreatPZ505
set_option maxRecDepth 65536
set_option linter.unusedSimpArgs false
set_option linter.unusedVariables false
set_option linter.unusedSectionVars false
namespace Go.AM
open Go.Proofs
theorem bT {α:Type} (f:Nat->α) (d:Nat) (v:α) (n:Nat):upd f d v n=if n=d then v else f n:=by
 unfold upd;by_cases h:n=d
 ·subst h;simp
 ·have:Nat.beq n d=false:=by
   cases hb:Nat.beq n d with
   | false=>rfl
   | true=>exact absurd (Nat.eq_of_beq_eq_true hb) h
  simp[h,this]
theorem E4 {α:Type} (x:α) (K:α->Prop):bj (some x) K=K x:=(rfl)
theorem Hk (k:IntKind) (i:Int) (K:Nat->Prop):m8 (.i (.c (.v (.int k i)))) K=(0<=i/\K i.toNat):=(rfl)
theorem yY (k:IntKind) (i:Nat) (K:Nat->Prop):m8 (.i (.c (.v (.int k (i:Int))))) K=K i:=by
 simp[m8]
theorem Fh (st:St) (n:Nat) (K:Nat->Prop):st.wEnd none n K=K n:=(rfl)
theorem Fg (st:St) (x:Operand) (n:Nat) (K:Nat->Prop):st.wEnd (some x) n K=m8 (st.ev x) K:=(rfl)
theorem Pf (st:St) (n:Tmp):st.ev (.tmp n)=st.t n:=(rfl)
theorem Jv (st:St) (v:Value):st.ev (.const v)=mA v:=(rfl)
theorem Mi (st:St) (f:FuncId):st.ev (.func f) = .i (.c (.v (.func (.func f) #[] #[]))):=(rfl)
theorem CX (k:IntKind) (n:Int):mA (.int k n) = .i (.c (.v (.int k n))):=(rfl)
theorem AA (b:Bool):mA (.bool b) = .i (.c (.v (.bool b))):=(rfl)
theorem CV:mA (.slice none 0 0) = .fl []:=(rfl)
section
variable (t:Nat->AV) (b:Nat->BX) (e:Nat->EN) (p:Nat->MP)
theorem Ib (d:Tmp) (v:AV):St.put ⟨t,b,e,p⟩ (some d) v=⟨upd t d v,b,e,p⟩:=(rfl)
theorem MB (d:Tmp) (v:AV) (cs:List C):St.app ⟨t,b,e,p⟩ (some d) { v:=v,nb:=some cs }=⟨upd t d v,upd b d ⟨(b d).gen+1,cs⟩,e,p⟩:=(rfl)
theorem MA (d:Tmp) (v:AV) (n:EN):St.app ⟨t,b,e,p⟩ (some d) { v:=v,ne:=some n }=⟨upd t d v,b,upd e d n,p⟩:=(rfl)
theorem JU (d k:Tmp) (v:AV) (n:EN):St.app ⟨t,b,e,p⟩ (some d) { v:=v,ne:=some n,kill:=some k } =
  ⟨upd t d v,b,upd (upd e k ⟨(e k).gen+1,0,[],false,false⟩) d n,p⟩:=(rfl)
theorem pQ (d:Nat) (v:AV):St.setT ⟨t,b,e,p⟩ d v=⟨upd t d v,b,e,p⟩:=(rfl)
theorem Le (d:Nat) (v:BX):St.setB ⟨t,b,e,p⟩ d v=⟨t,upd b d v,e,p⟩:=(rfl)
theorem Ld (d:Nat) (v:EN):St.setE ⟨t,b,e,p⟩ d v=⟨t,b,upd e d v,p⟩:=(rfl)
theorem Gy (k:Nat):St.freeze ⟨t,b,e,p⟩ k=⟨t,b,upd e k { e k with m:=false,app:=false },p⟩:=(rfl)
theorem t_mk:St.t ⟨t,b,e,p⟩=t:=(rfl)
theorem b_mk:St.b ⟨t,b,e,p⟩=b:=(rfl)
theorem e_mk:St.e ⟨t,b,e,p⟩=e:=(rfl)
end
def uG (args:List IV) (n:Nat):AV:=match args[n]? with|some x => .i x|none => .any
def mS (_:Nat):BX:=⟨0,[]⟩
def oQ (_:Nat):EN:=⟨0,0,[],false,false⟩
def nJ (_:Nat):MP:={ gen:=0,kv:=[] }
theorem L5 (args:List IV):iy args=⟨uG args,mS,oQ,nJ⟩:=(rfl)
theorem Cw (x:IV) (l:List IV):uG (x::l) 0 = .i x:=(rfl)
theorem Cx (x:IV) (l:List IV) (n:Nat):uG (x::l) (n+1)=uG l n:=(rfl)
theorem Gr (n:Nat):uG [] n = .any:=(rfl)
theorem L7 (n:Nat):(mS n).gen=0:=(rfl)
theorem L6 (n:Nat):(oQ n).gen=0:=(rfl)
theorem pv_v (x:Value):AV.pv (.i (.c (.v x)))=some x:=(rfl)
theorem pv_g (cs:List C):AV.pv (.i (.g cs))=(vQ cs).map fun l => .agg l.toArray:=(rfl)
theorem Oo (st:St) (x:IV):st.toIV (.i x)=some x:=(rfl)
theorem La (st:St) (rs:List (List C)):st.toIV (.fl rs)=some (.c (.lst rs)):=(rfl)
theorem K9 (st:St) (t g len:Nat) (h1:(st.e t).gen=g) (h2:0<g) (h3:(st.e t).m=false):st.toIV (.sl t g len)=some (.c (.lst ((st.e t).rs.take len))):=by
 have hb:Nat.blt 0 g=true:=by simpa using h2
 simp[St.toIV,h1,h3,hb]
theorem HY (st:St) (rs:List (List C)):st.rows (.i (.c (.lst rs)))=some rs:=(rfl)
theorem Lj (st:St) (rs:List (List C)):st.rows (.fl rs)=some rs:=(rfl)
theorem Li (st:St) (t g len:Nat) (h1:(st.e t).gen=g) (h2:0<g):st.rows (.sl t g len)=some ((st.e t).rs.take len):=by
 have hb:Nat.blt 0 g=true:=by simpa using h2
 simp[St.rows,h1,hb]
theorem LR (st:St) (rs:List (List C)):st.len (.i (.c (.lst rs)))=some rs.length:=(rfl)
theorem OY (st:St) (rs:List (List C)):st.len (.fl rs)=some rs.length:=(rfl)
theorem OX (st:St) (t g len:Nat) (h1:(st.e t).gen=g) (h2:0<g):st.len (.sl t g len)=some len:=by
 have hb:Nat.blt 0 g=true:=by simpa using h2
 simp[St.len,h1,hb]
theorem Q9 (st:St) (x:IV):st.fin (.i x)=some x:=(rfl)
theorem Pe (st:St) (rs:List (List C)):st.fin (.fl rs)=some (.c (.lst rs)):=(rfl)
theorem Pd (st:St) (t g len:Nat) (h1:(st.e t).gen=g) (h2:0<g):st.fin (.sl t g len)=some (.c (.lst ((st.e t).rs.take len))):=by
 have hb:Nat.blt 0 g=true:=by simpa using h2
 simp[St.fin,h1,hb]
theorem H4 (P:Program) (st:St) (t:Tmp):st.res1 P (.tmp t)=st.fin (st.t t):=(rfl)
theorem Cg (v:AV):fW none v=True:=by cases v<;>simp[fW,okE]
theorem Lw (D:Option DI) (x:IV):fW D (.i x)=True:=(rfl)
theorem IE (D:Option DI) (x:List (List C)):fW D (.fl x)=True:=(rfl)
theorem IF (D:Option DI) (y:Operand) (x:IV):ro D y (.i x)=True:=(rfl)
theorem F9 (D:Option DI) (y:Operand) (t g off:Nat):ro D y (.sl t g off)=(okE D t\/okF D/\y = .tmp t):=(rfl)
theorem Iu:okF none=True:=(rfl)
theorem It (al:List Nat) (b fr:Bool) (nk:Option (List Nat)):okF (some ⟨al,b,fr,nk⟩)=(fr=true):=(rfl)
theorem Ot (a b:Nat):(Operand.tmp a=Operand.tmp b)=(a=b):=au
theorem zM (t g o:Nat):rn none (.bp t g o)=True:=(rfl)
theorem F7 (t g o t' g' o':Nat):rn (some (.bp t' g' o')) (.bp t g o)=(t≠t'):=(rfl)
theorem ID (D:Option DI) (t g off:Nat):fW D (.sl t g off)=okE D t:=(rfl)
theorem IA (t:Nat):okB none t=True:=(rfl)
theorem Iw (t:Nat):okE none t=True:=(rfl)
theorem Iz (al:List Nat) (b fr:Bool) (nk:Option (List Nat)) (t:Nat):okB (some ⟨al,b,fr,nk⟩) t=(al.contains t=false):=(rfl)
theorem Iv (al:List Nat) (b fr:Bool) (t:Nat):okE (some ⟨al,b,fr,none⟩) t=(b=false):=by simp[okE]
theorem Iy (al:List Nat) (b fr:Bool) (ks:List Nat) (t:Nat):okE (some ⟨al,b,fr,some ks⟩) t=(b=false\/ks.contains t=false):=by simp[okE]
theorem zP (v:AV):nA none v=True:=by cases v<;>simp[nA]
theorem Gb (D:Option DI) (rs:List (List C)):nA D (.fl rs)=True:=(rfl)
theorem Ga (al:List Nat) (b fr:Bool) (v:AV):nA (some ⟨al,b,fr,none⟩) v=True:=by cases v<;>simp[nA]
attribute [go_sem] Iy zP Gb Ga
theorem LU (n by':Nat) (z:Option (List C)) (e:Option TypeId) (a:Option (Nat×TypeId)) (f:List (Nat×TypeId)) (cs:List C) (h:n<=cs.length):ldv ⟨true,n,by',z,e,a,f⟩ cs=some (.g (cs.take n)):=by simp[ldv,h]
theorem LT (n by':Nat) (z:Option (List C)) (e:Option TypeId) (a:Option (Nat×TypeId)) (f:List (Nat×TypeId)) (c:C) (cs:List C):ldv ⟨false,n,by',z,e,a,f⟩ (c::cs)=some (.c c):=by simp[ldv]
theorem jw (K:St->Prop) (Q:bg->St->Prop) (s:St):jl K Q .normal s=K s:=(rfl)
theorem BO (K:St->Prop) (Q:bg->St->Prop) (id:Nat) (s:St):jl K Q (.exit id) s=Q (.exit id) s:=(rfl)
theorem FG (K:St->Prop) (Q:bg->St->Prop) (s:St):jl K Q .ret s=Q .ret s:=(rfl)
theorem iP (n:Nat) (Q:bg->St->Prop) (s:St):mF n Q .normal s=Q .normal s:=(rfl)
theorem AG (n:Nat) (Q:bg->St->Prop) (id:Nat) (s:St):mF n Q (.exit id) s=if id=n then Q .normal s else Q (.exit id) s:=(rfl)
theorem C6 (n:Nat) (Q:bg->St->Prop) (s:St):mF n Q .ret s=Q .ret s:=(rfl)
theorem IS {α β:Type} (f:α->Option β):eF f []=some []:=(rfl)
theorem Gg {α β:Type} (f:α->Option β) (x:α) (xs:List α):eF f (x::xs)=(f x).bind fun y=>(eF f xs).bind fun ys=>some (y::ys):=by
 cases h:f x<;>cases h':eF f xs<;>simp[eF,h,h']
theorem IZ (n:Nat):lens n []=True:=by simp[lens]
theorem Gm (n:Nat) (r:List C) (rs:List (List C)):lens n (r::rs)=(r.length=n/\lens n rs):=by simp[lens]
theorem Hh (n:Int) (K:Value->Prop):oZ .i64 n K=((-9223372036854775808<=n/\n<9223372036854775808)/\K (.int .i64 n)):=(rfl)
theorem Hf (n:Int) (K:Value->Prop):oZ .u64 n K=K (.int .u64 (IntKind.wrap .u64 n)):=(rfl)
theorem Hg (n:Int) (K:Value->Prop):oZ .u32 n K=K (.int .u32 (IntKind.wrap .u32 n)):=(rfl)
theorem mZ (n:Int):IntKind.wrap .u64 n=n % 18446744073709551616:=by simp[IntKind.wrap,IntKind.bits,IntKind.signed]
theorem m5 (n:Int):IntKind.wrap .u32 n=n % 4294967296:=by simp[IntKind.wrap,IntKind.bits,IntKind.signed]
theorem KW (n:Int):IntKind.wrap .u8 n=n % 256:=by simp[IntKind.wrap,IntKind.bits,IntKind.signed]
theorem jQ (n:Int) (h1 : -9223372036854775808<=n) (h2:n<9223372036854775808):IntKind.wrap .i64 n=n:=by
 simp only[IntKind.wrap,IntKind.bits,IntKind.signed,Bool.true_and,Nat.reduceSub,Int.reducePow];split<;>rename_i h4<;>simp only[decide_eq_true_eq,ge_iff_le]at h4<;>omega
theorem Bx {α:Type} {o o':Option α} (K:α->Prop) (h:o=o'):bj o K=bj o' K:=by rw[h]
theorem By {v v':AV} (K:Nat->Prop) (h:v=v'):m8 v K=m8 v' K:=by rw[h]
theorem y8 {v v':AV} (K:Bool->Prop) (h:v=v'):pL v K=pL v' K:=by rw[h]
theorem Fb {v v' u u':AV} (K:IntKind->Int->Int->Prop) (h:v=v') (h':u=u'):wI2 v u K=wI2 v' u' K:=by rw[h,h']
theorem Bu {v v':AV} (K:List IV->Prop) (h:v=v'):Bv v K=Bv v' K:=by rw[h]
theorem BJ {v v':AV} (K:List C->Prop) (h:v=v'):BK v K=BK v' K:=by rw[h]
theorem xm (st:St) (D:Option DI) {v v':AV} (K:List C->Prop) (h:v=v'):st.wCells D v K=st.wCells D v' K:=by rw[h]
theorem Bz {rs rs':List (List C)} {i i':Nat} (K:List C->Prop) (h:rs=rs') (h':i=i'):o5 rs i K=o5 rs' i' K:=by rw[h,h']
theorem BI (st:St) (d:Nat) (te:TI) {xs xs':List (List C)} {x x' y y':AV} (K:St->Prop) (h:xs=xs') (h1:y=y') (h2:x=x'):st.wApp d te xs y x K=st.wApp d te xs' y' x' K:=by rw[h,h1,h2]
theorem yX {k k':CK} (A B:Prop) (h:k=k'):vS k A B=vS k' A B:=by rw[h]
theorem Ff (st:St) (D:Option DI) {n n':Nat} {v v':AV} (K:AV->Prop) (h:n=n') (h':v=v'):st.wFA D n v K=st.wFA D n' v' K:=by rw[h,h']
theorem Fa (P:Program) (st:St) (D:Option DI) {ti ti':TI} {i i':Nat} {v v':AV} (K:AV->Prop) (h:ti=ti') (h1:i=i') (h2:v=v'):St.wIA P st D ti i v K=St.wIA P st D ti' i' v' K:=by rw[h,h1,h2]
theorem xj (te:TI) {l l' h h':Nat} {v v':AV} (K:AV->Prop) (e:l=l') (e1:h=h') (e2:v=v'):oY te l h v K=oY te l' h' v' K:=by rw[e,e1,e2]
theorem vG (te:TI) {l l' h h':Nat} {v v':AV} (K:AV->Prop) (e:l=l') (e1:h=h') (e2:v=v'):od te l h v K=od te l' h' v' K:=by rw[e,e1,e2]
theorem xh (st:St) {n n':Nat} {cs cs':List C} {v v':AV} (K:St->Prop) (h:n=n') (h1:cs=cs') (h2:v=v'):st.wStore n cs v K=st.wStore n' cs' v' K:=by rw[h,h1,h2]
theorem xl {v v':AV} (w:Bool) (A B C:Prop) (h:v=v'):jR v w A B C=jR v' w A B C:=by rw[h]
theorem MN (P:Program) (kind:FuncId->CK) (D:Option DI) (dst:Option Tmp) (K:St->Prop) {st st':St} (op:Op) (h:st=st'):W P kind D dst K st op=W P kind D dst K st' op:=by rw[h]
theorem Fc (r:List C) (rs:List (List C)) (K:List C->Prop):o5 (r::rs) 0 K=K r:=by simp[o5]
theorem Fe (r:List C) (rs:List (List C)) (n:Nat) (K:List C->Prop):o5 (r::rs) (n+1) K=o5 rs n K:=by simp[o5]
def wEl {α:Type} (l:List α) (i:Nat) (K:α->Prop) (_:Tg K):Prop:=∃ a,l[i]?=some a/\K a
theorem Hm {α:Type} (l:List α) (f:α->List C) (i:Nat) (K:List C->Prop):o5 (l.map f) i K=wEl l i (fun a=>K (f a)) ⟨⟩:=by
 simp only[o5,wEl,List.getElem?_map];cases l[i]?<;>simp
theorem aV {α:Type} {l:List α} {i:Nat} {K:α->Prop} (h:i<l.length) (hK:K l[i]):wEl l i K ⟨⟩:=⟨l[i],by simp[h],hK⟩
theorem aP {α:Type} {l:List α} {i:Nat} {K:α->Prop} {a:α} (h:l[i]?=some a) (hK:K a):wEl l i K ⟨⟩:=⟨a,h,hK⟩
theorem PK (P:Program) (kind:FuncId->CK) (D:Option DI) (dst:Option Tmp) (K:St->Prop) (τ:Nat->AV) (β:Nat->BX) (ε:Nat->EN) (π:Nat->MP) (x:Operand):W P kind D dst K ⟨τ,β,ε,π⟩ (.move x) =
  (K ((St.mk τ β ε π).put dst ((St.mk τ β ε π).ev x))):=(rfl)
theorem J3 (P:Program) (kind:FuncId->CK) (D:Option DI) (dst:Option Tmp) (K:St->Prop) (τ:Nat->AV) (β:Nat->BX) (ε:Nat->EN) (π:Nat->MP) (x:Operand):W P kind D dst K ⟨τ,β,ε,π⟩ (.assign x) =
  (K ((St.mk τ β ε π).put dst ((St.mk τ β ε π).ev x))):=(rfl)
theorem PI (P:Program) (kind:FuncId->CK) (D:Option DI) (dst:Option Tmp) (K:St->Prop) (τ:Nat->AV) (β:Nat->BX) (ε:Nat->EN) (π:Nat->MP) (c x y:Operand):W P kind D dst K ⟨τ,β,ε,π⟩ (.pick c x y) =
  (pL ((St.mk τ β ε π).ev c) fun t=>wIf t (K ((St.mk τ β ε π).put dst ((St.mk τ β ε π).ev x))) (K ((St.mk τ β ε π).put dst ((St.mk τ β ε π).ev y))) ⟨⟩):=(rfl)
theorem MR (P:Program) (kind:FuncId->CK) (D:Option DI) (dst:Option Tmp) (K:St->Prop) (τ:Nat->AV) (β:Nat->BX) (ε:Nat->EN) (π:Nat->MP) (T:TypeId):W P kind D dst K ⟨τ,β,ε,π⟩ (.alloc T) =
  (bj dst fun d=>bj (tinfo P T) fun ti=>bj ti.zero fun cs=>K ((St.mk τ β ε π).app (some d) { v := .bp d (((St.mk τ β ε π).b d).gen+1) 0,nb:=some cs })):=(rfl)
theorem Rw (P:Program) (kind:FuncId->CK) (D:Option DI) (dst:Option Tmp) (K:St->Prop) (τ:Nat->AV) (β:Nat->BX) (ε:Nat->EN) (π:Nat->MP) (T:TypeId) (x:Operand):W P kind D dst K ⟨τ,β,ε,π⟩ (.box T x) =
  (bj dst fun d=>fW D ((St.mk τ β ε π).ev x)/\bj ((St.mk τ β ε π).toIV ((St.mk τ β ε π).ev x)) fun y=>K ((St.mk τ β ε π).app (some d) { v := .bp d (((St.mk τ β ε π).b d).gen+1) 0,nb:=some y.cells })):=(rfl)
theorem MO (P:Program) (kind:FuncId->CK) (D:Option DI) (dst:Option Tmp) (K:St->Prop) (τ:Nat->AV) (β:Nat->BX) (ε:Nat->EN) (π:Nat->MP) (T:TypeId) (ps:Array (Nat×Operand)):W P kind D dst K ⟨τ,β,ε,π⟩ (.build T ps) =
  (bj (tinfo P T) fun ti=>bj ti.zero fun z=>ti.agg=true/\HF P ti.arr ps.toList /\
   bj (eF (fun f=>(tinfo P f.2).map fun t=>(f.1,t.size)) ti.flds) fun pl=>(∀ p∈ps.toList,fW D ((St.mk τ β ε π).ev p.2))/\bj ((St.mk τ β ε π).partCells ps.toList) fun l =>
   bj (mT pl z l) fun cs=>K ((St.mk τ β ε π).put dst (.i (.g cs)))):=(rfl)
theorem yp (P:Program) (kind:FuncId->CK) (D:Option DI) (dst:Option Tmp) (K:St->Prop) (τ:Nat->AV) (β:Nat->BX) (ε:Nat->EN) (π:Nat->MP) (T:TypeId) (n:Nat) (ps:Array (Nat×Operand)):W P kind D dst K ⟨τ,β,ε,π⟩ (.buildSlice T n ps) =
  (bj (fE P T) fun ti=>bj ti.zero fun z=>z.length=ti.size/\0<ti.size/\n*ti.size<=16777216/\(∀ p∈ps.toList,fW D ((St.mk τ β ε π).ev p.2))/\bj ((St.mk τ β ε π).partCells ps.toList) fun l =>
   (∀ p∈l,p.1<n/\p.2.length=ti.size)/\K ((St.mk τ β ε π).put dst (.fl (l.foldl (fun rs p=>rs.set p.1 p.2) (List.replicate n z))))):=(rfl)
theorem PL (P:Program) (kind:FuncId->CK) (D:Option DI) (dst:Option Tmp) (K:St->Prop) (τ:Nat->AV) (β:Nat->BX) (ε:Nat->EN) (π:Nat->MP) (T:TypeId) (x:Operand):W P kind D dst K ⟨τ,β,ε,π⟩ (.load T x) =
  (bj (tinfo P T) fun ti=>(St.mk τ β ε π).wCells D ((St.mk τ β ε π).ev x) fun cs=>bj (ldv ti cs) fun iv=>K ((St.mk τ β ε π).put dst (.i iv))):=(rfl)
theorem MQ (P:Program) (kind:FuncId->CK) (D:Option DI) (dst:Option Tmp) (K:St->Prop) (τ:Nat->AV) (β:Nat->BX) (ε:Nat->EN) (π:Nat->MP) (op:BinOp) (T:TypeId) (x y:Operand) (U:TypeId):W P kind D dst K ⟨τ,β,ε,π⟩ (.binOp op T x y U) =
  (bj ((St.mk τ β ε π).ev x).pv fun a=>bj ((St.mk τ β ε π).ev y).pv fun b=>fp P op T x y a b fun z=>K ((St.mk τ β ε π).put dst (sc z))):=(rfl)
theorem PH (P:Program) (kind:FuncId->CK) (D:Option DI) (dst:Option Tmp) (K:St->Prop) (τ:Nat->AV) (β:Nat->BX) (ε:Nat->EN) (π:Nat->MP) (op:UnOp) (T:TypeId) (x:Operand):W P kind D dst K ⟨τ,β,ε,π⟩ (.unOp op T x) =
  (bj ((St.mk τ β ε π).ev x).pv fun a=>wUn P op a fun z=>K ((St.mk τ β ε π).put dst (sc z))):=(rfl)
theorem GQ (P:Program) (kind:FuncId->CK) (D:Option DI) (dst:Option Tmp) (K:St->Prop) (τ:Nat->AV) (β:Nat->BX) (ε:Nat->EN) (π:Nat->MP) (s d:TypeId) (x:Operand):W P kind D dst K ⟨τ,β,ε,π⟩ (.convert s d x) =
  (bj ((St.mk τ β ε π).ev x).pv fun a=>Dy P s d a fun z=>K ((St.mk τ β ε π).put dst (sc z))):=(rfl)
theorem MK (P:Program) (kind:FuncId->CK) (D:Option DI) (dst:Option Tmp) (K:St->Prop) (τ:Nat->AV) (β:Nat->BX) (ε:Nat->EN) (π:Nat->MP) (T:TypeId) (x y:Operand):W P kind D dst K ⟨τ,β,ε,π⟩ (.index T x y) =
  (bj ((St.mk τ β ε π).ev x).pv fun a=>bj ((St.mk τ β ε π).ev y).pv fun b=>∃ z,ez P (Instr.index T a b) z/\z.oneCell'=true/\K ((St.mk τ β ε π).put dst (sc z))):=(rfl)
theorem GP (P:Program) (kind:FuncId->CK) (D:Option DI) (dst:Option Tmp) (K:St->Prop) (τ:Nat->AV) (β:Nat->BX) (ε:Nat->EN) (π:Nat->MP) (x:Operand) (n:Nat):W P kind D dst K ⟨τ,β,ε,π⟩ (.extract x n) =
  (Bv ((St.mk τ β ε π).ev x) fun xs=>bj xs[n]? fun y=>K ((St.mk τ β ε π).put dst (.i y))):=(rfl)
theorem ML (P:Program) (kind:FuncId->CK) (D:Option DI) (dst:Option Tmp) (K:St->Prop) (τ:Nat->AV) (β:Nat->BX) (ε:Nat->EN) (π:Nat->MP) (T:TypeId) (x:Operand) (f:Nat):W P kind D dst K ⟨τ,β,ε,π⟩ (.field T x f) =
  (bj (tinfo P T) fun ti=>bj ti.flds[f]? fun fd=>bj (tinfo P fd.2) fun tf=>BK ((St.mk τ β ε π).ev x) fun cs=>bj (ldv tf (cs.drop fd.1)) fun iv=>K ((St.mk τ β ε π).put dst (.i iv))):=(rfl)
theorem AS (P:Program) (kind:FuncId->CK) (D:Option DI) (dst:Option Tmp) (K:St->Prop) (τ:Nat->AV) (β:Nat->BX) (ε:Nat->EN) (π:Nat->MP) (T:TypeId) (x:Operand) (f:Nat):W P kind D dst K ⟨τ,β,ε,π⟩ (.fieldAddr T x f) =
  (bj (tinfo P T) fun ti=>bj ti.flds[f]? fun fd=>bj (tinfo P fd.2) fun tf=>tf.size≠0/\(St.mk τ β ε π).wFA D fd.1 ((St.mk τ β ε π).ev x) fun v=>K ((St.mk τ β ε π).put dst v)):=(rfl)
theorem AR (P:Program) (kind:FuncId->CK) (D:Option DI) (dst:Option Tmp) (K:St->Prop) (τ:Nat->AV) (β:Nat->BX) (ε:Nat->EN) (π:Nat->MP) (T:TypeId) (x y:Operand):W P kind D dst K ⟨τ,β,ε,π⟩ (.indexAddr T x y) =
  (bj (tinfo P T) fun ti=>m8 ((St.mk τ β ε π).ev y) fun i=>St.wIA P (St.mk τ β ε π) D ti i ((St.mk τ β ε π).ev x) fun v=>K ((St.mk τ β ε π).put dst v)):=(rfl)
theorem MI (P:Program) (kind:FuncId->CK) (D:Option DI) (dst:Option Tmp) (K:St->Prop) (τ:Nat->AV) (β:Nat->BX) (ε:Nat->EN) (π:Nat->MP) (T:TypeId) (x:Operand) (lo hi mx:Option Operand):W P kind D dst K ⟨τ,β,ε,π⟩ (.slice T x lo hi mx) =
  (bj (tinfo P T) fun ti=>bj ti.elem fun e=>bj (tinfo P e) fun te=>ro D x ((St.mk τ β ε π).ev x)/\bj ((St.mk τ β ε π).len ((St.mk τ β ε π).ev x)) fun n =>
   (St.mk τ β ε π).wEnd lo 0 fun l=>(St.mk τ β ε π).wEnd hi n fun h=>(l<=h/\h<=n)/\Hb mx (oY te l h ((St.mk τ β ε π).ev x) fun v=>K ((St.mk τ β ε π).put dst v))
    fun y=>hi≠none/\m8 ((St.mk τ β ε π).ev y) fun m=>m=h/\od te l h ((St.mk τ β ε π).ev x) fun v=>K ((St.mk τ β ε π).put dst v)):=(rfl)
theorem AQ (P:Program) (kind:FuncId->CK) (D:Option DI) (dst:Option Tmp) (K:St->Prop) (τ:Nat->AV) (β:Nat->BX) (ε:Nat->EN) (π:Nat->MP) (T:TypeId) (x y:Operand):W P kind D dst K ⟨τ,β,ε,π⟩ (.makeSlice T x y) =
  (bj dst fun d=>bj (fE P T) fun te=>bj (te.zero.map mkZ) fun z=>z.length=te.size/\m8 ((St.mk τ β ε π).ev x) fun n=>m8 ((St.mk τ β ε π).ev y) fun m=>(n<=m/\m*te.bytes<=140737488355328/\m<4611686018427387904) /\
   K ((St.mk τ β ε π).app (some d) { v := .sl d (((St.mk τ β ε π).e d).gen+1) n,ne:=some ⟨((St.mk τ β ε π).e d).gen+1,te.size,List.replicate n z,true,true⟩ })):=(rfl)
theorem MH (P:Program) (kind:FuncId->CK) (D:Option DI) (dst:Option Tmp) (K:St->Prop) (τ:Nat->AV) (β:Nat->BX) (ε:Nat->EN) (π:Nat->MP) (T:TypeId) (x y:Operand):W P kind D dst K ⟨τ,β,ε,π⟩ (.store T x y) =
  (D=none/\dst=none/\bj (tinfo P T) fun ti=>bj ((St.mk τ β ε π).toIV ((St.mk τ β ε π).ev y)) fun v=>v.cells.length=ti.size/\(St.mk τ β ε π).wStore ti.size v.cells ((St.mk τ β ε π).ev x) K):=(rfl)
theorem PM (P:Program) (kind:FuncId->CK) (D:Option DI) (dst:Option Tmp) (K:St->Prop) (τ:Nat->AV) (β:Nat->BX) (ε:Nat->EN) (π:Nat->MP) (c:Call):W P kind D dst K ⟨τ,β,ε,π⟩ (.call c) =
  (ng P kind D dst K (St.mk τ β ε π) c):=(rfl)
theorem Fp (P:Program) (kind:FuncId->CK) (D:Option DI) (dst:Option Tmp) (K:St->Prop) (τ:Nat->AV) (β:Nat->BX) (ε:Nat->EN) (π:Nat->MP) (as':Array Operand) (ts:Array TypeId):ng P kind D dst K ⟨τ,β,ε,π⟩ ⟨.builtin .len,as',ts⟩ =
  kA as'.toList (fun x=>fW D ((St.mk τ β ε π).ev x)/\((ts[0]?).bind (tinfo P)).bind (·.elem)≠none/\bj ((St.mk τ β ε π).len ((St.mk τ β ε π).ev x)) fun n=>K ((St.mk τ β ε π).put dst (sc (.int .i64 n)))) fun _ _=>False:=(rfl)
theorem Fo (P:Program) (kind:FuncId->CK) (D:Option DI) (dst:Option Tmp) (K:St->Prop) (τ:Nat->AV) (β:Nat->BX) (ε:Nat->EN) (π:Nat->MP) (as':Array Operand) (ts:Array TypeId):ng P kind D dst K ⟨τ,β,ε,π⟩ ⟨.builtin .max,as',ts⟩ =
  kA as'.toList (fun _=>False) fun x y=>wI2 ((St.mk τ β ε π).ev x) ((St.mk τ β ε π).ev y) fun k a b=>K ((St.mk τ β ε π).put dst (sc (.int k (max a b)))):=(rfl)
theorem Fm (P:Program) (kind:FuncId->CK) (D:Option DI) (dst:Option Tmp) (K:St->Prop) (τ:Nat->AV) (β:Nat->BX) (ε:Nat->EN) (π:Nat->MP) (as':Array Operand) (ts:Array TypeId):ng P kind D dst K ⟨τ,β,ε,π⟩ ⟨.builtin .min,as',ts⟩ =
  kA as'.toList (fun _=>False) fun x y=>wI2 ((St.mk τ β ε π).ev x) ((St.mk τ β ε π).ev y) fun k a b=>K ((St.mk τ β ε π).put dst (sc (.int k (min a b)))):=(rfl)
theorem xn (P:Program) (kind:FuncId->CK) (D:Option DI) (dst:Option Tmp) (K:St->Prop) (τ:Nat->AV) (β:Nat->BX) (ε:Nat->EN) (π:Nat->MP) (as':Array Operand) (ts:Array TypeId):ng P kind D dst K ⟨τ,β,ε,π⟩ ⟨.builtin .append,as',ts⟩ =
  bj dst fun d=>kA as'.toList (fun _=>False) fun x y=>bj ts[0]? fun t=>bj ts[1]? fun u=>ts.size=2 /\
   bj (fE P t) fun te=>(tinfo P u).bind (·.elem)≠none/\bj te.zero fun z=>z.length=te.size/\0<te.size/\0<te.bytes /\
    bj ((St.mk τ β ε π).rows ((St.mk τ β ε π).ev y)) fun xs=>lens te.size xs/\nA D ((St.mk τ β ε π).ev x).full/\(St.mk τ β ε π).wApp d te xs ((St.mk τ β ε π).ev y) ((St.mk τ β ε π).ev x).full K:=(rfl)
theorem y6 (P:Program) (kind:FuncId->CK) (D:Option DI) (dst:Option Tmp) (K:St->Prop) (τ:Nat->AV) (β:Nat->BX) (ε:Nat->EN) (π:Nat->MP) (x:Operand) (as':Array Operand) (ts:Array TypeId):ng P kind D dst K ⟨τ,β,ε,π⟩ ⟨.value x,as',ts⟩ =
  oc (fP kind x) (il P kind D dst K (St.mk τ β ε π) (.call ⟨.value x,as',ts⟩) ⟨⟩) (bj (c8 (St.mk τ β ε π) ⟨.value x,as',ts⟩) fun f=>(∀ x∈as'.toList,fW D ((St.mk τ β ε π).ev x))/\bj (eF (fun x=>(St.mk τ β ε π).toIV ((St.mk τ β ε π).ev x)) as'.toList) fun args =>
   vS (kind f) (wFn P f args (fun res=>K ((St.mk τ β ε π).put dst (rv res))) ⟨⟩)
    (bj dst fun d=>Hc (.value x) fun f'=>f'=f/\Oc P f args (fun sz rs=>K ((St.mk τ β ε π).app (some d) { v := .sl d (((St.mk τ β ε π).e d).gen+1) rs.length,ne:=some ⟨((St.mk τ β ε π).e d).gen+1,sz,rs,!rs.isEmpty,true⟩ })) ⟨⟩)) ⟨⟩:=(rfl)
theorem BB (P:Program) (kind:FuncId->CK) (D:Option DI) (dst:Option Tmp) (K:St->Prop) (τ:Nat->AV) (β:Nat->BX) (ε:Nat->EN) (π:Nat->MP) (as':Array Operand) (ts:Array TypeId):ng P kind D dst K ⟨τ,β,ε,π⟩ ⟨.builtin .copy,as',ts⟩=il P kind D dst K (St.mk τ β ε π) (.call ⟨.builtin .copy,as',ts⟩) ⟨⟩:=(rfl)
theorem GO (P:Program) (kind:FuncId->CK) (D:Option DI) (dst:Option Tmp) (K:St->Prop) (τ:Nat->AV) (β:Nat->BX) (ε:Nat->EN) (π:Nat->MP) (T:TypeId) (x:Option Operand):W P kind D dst K ⟨τ,β,ε,π⟩ (.makeMap T x)=il P kind D dst K (St.mk τ β ε π) (.makeMap T x) ⟨⟩:=(rfl)
theorem J2 (P:Program) (kind:FuncId->CK) (D:Option DI) (dst:Option Tmp) (K:St->Prop) (τ:Nat->AV) (β:Nat->BX) (ε:Nat->EN) (π:Nat->MP) (T:TypeId) (x y:Operand) (c:Bool):W P kind D dst K ⟨τ,β,ε,π⟩ (.lookup T x y c)=il P kind D dst K (St.mk τ β ε π) (.lookup T x y c) ⟨⟩:=(rfl)
theorem AP (P:Program) (kind:FuncId->CK) (D:Option DI) (dst:Option Tmp) (K:St->Prop) (τ:Nat->AV) (β:Nat->BX) (ε:Nat->EN) (π:Nat->MP) (T:TypeId) (x y z:Operand):W P kind D dst K ⟨τ,β,ε,π⟩ (.mapUpdate T x y z)=il P kind D dst K (St.mk τ β ε π) (.mapUpdate T x y z) ⟨⟩:=(rfl)
theorem MJ (P:Program) (kind:FuncId->CK) (D:Option DI) (dst:Option Tmp) (K:St->Prop) (τ:Nat->AV) (β:Nat->BX) (ε:Nat->EN) (π:Nat->MP) (T:TypeId) (x:Operand):W P kind D dst K ⟨τ,β,ε,π⟩ (.range T x)=il P kind D dst K (St.mk τ β ε π) (.range T x) ⟨⟩:=(rfl)
theorem PJ (P:Program) (kind:FuncId->CK) (D:Option DI) (dst:Option Tmp) (K:St->Prop) (τ:Nat->AV) (β:Nat->BX) (ε:Nat->EN) (π:Nat->MP) (x:Operand) (c:Bool):W P kind D dst K ⟨τ,β,ε,π⟩ (.next x c)=il P kind D dst K (St.mk τ β ε π) (.next x c) ⟨⟩:=(rfl)
theorem MM (P:Program) (kind:FuncId->CK) (D:Option DI) (dst:Option Tmp) (K:St->Prop) (τ:Nat->AV) (β:Nat->BX) (ε:Nat->EN) (π:Nat->MP) (x:Operand):W P kind D dst K ⟨τ,β,ε,π⟩ (.entry x)=il P kind D dst K (St.mk τ β ε π) (.entry x) ⟨⟩:=(rfl)
theorem Dc (P:Program) (kind:FuncId->CK) (D:Option DI) (dst:Option Tmp) (K:St->Prop) (τ:Nat->AV) (β:Nat->BX) (ε:Nat->EN) (π:Nat->MP) (f:Go.Fn) (x y:Array Operand):W P kind D dst K ⟨τ,β,ε,π⟩ (.makeFunc f x y)=il P kind D dst K (St.mk τ β ε π) (.makeFunc f x y) ⟨⟩:=(rfl)
theorem zw (kind:FuncId->CK) (f:FuncId):fP kind (.func f)=decide (kind f = .sem):=(rfl)
theorem zu (kind:FuncId->CK) (t:Tmp):fP kind (.tmp t)=false:=(rfl)
theorem xg (A B:Prop):oc true A B ⟨⟩=A:=(rfl)
theorem vF (A B:Prop):oc false A B ⟨⟩=B:=(rfl)
theorem PG (P:Program) (kind:FuncId->CK) (D:Option DI) (ops:List Oper) (K:St->Prop) (τ:Nat->AV) (β:Nat->BX) (ε:Nat->EN) (π:Nat->MP):Ws P kind D ops [] K ⟨τ,β,ε,π⟩=K ⟨τ,β,ε,π⟩:=(rfl)
theorem MF (P:Program) (kind:FuncId->CK) (D:Option DI) (ops l:List Oper) (K:St->Prop) (τ:Nat->AV) (β:Nat->BX) (ε:Nat->EN) (π:Nat->MP) (dst:Option Tmp) (op:Op) (ty:TypeId) (pos:String) (aft:Array Edge) :
  Ws P kind D ops (⟨dst,op,ty,pos,aft,none⟩::l) K ⟨τ,β,ε,π⟩=W P kind D dst (Ws P kind D ops l K) ⟨τ,β,ε,π⟩ op:=(rfl)
theorem ME (P:Program) (kind:FuncId->CK) (D:Option DI) (ops l:List Oper) (K:St->Prop) (τ:Nat->AV) (β:Nat->BX) (ε:Nat->EN) (π:Nat->MP) (dst:Option Tmp) (op:Op) (ty:TypeId) (pos:String) (aft:Array Edge) (j:Nat) (want:Bool) :
  Ws P kind D ops (⟨dst,op,ty,pos,aft,some (j,want)⟩::l) K ⟨τ,β,ε,π⟩=bj ((ops[j]?).bind (·.dst)) fun d=>jR (τ d) want
    (W P kind D dst (Ws P kind D ops l K) (St.setT ⟨τ,β,ε,π⟩ d (sc (.bool want))) op)
    (Ws P kind D ops l K ((St.setT ⟨τ,β,ε,π⟩ d (sc (.bool !want))).put dst (.tup [])))
    (Ws P kind D ops l K (St.put ⟨τ,β,ε,π⟩ dst (.tup []))):=(rfl)
theorem MG (P:Program) (kind:FuncId->CK) (ops:List Oper) (K:St->Prop) (τ:Nat->AV) (β:Nat->BX) (ε:Nat->EN) (π:Nat->MP):WsF P kind ops [] K ⟨τ,β,ε,π⟩=K ⟨τ,β,ε,π⟩:=(rfl)
theorem J1 (P:Program) (kind:FuncId->CK) (ops l:List Oper) (K:St->Prop) (τ:Nat->AV) (β:Nat->BX) (ε:Nat->EN) (π:Nat->MP) (dst:Option Tmp) (op:Op) (ty:TypeId) (pos:String) (aft:Array Edge) :
  WsF P kind ops (⟨dst,op,ty,pos,aft,none⟩::l) K ⟨τ,β,ε,π⟩=W P kind none dst (WsF P kind ops l K) (bX kind op ⟨τ,β,ε,π⟩) op:=(rfl)
theorem J0 (P:Program) (kind:FuncId->CK) (ops l:List Oper) (K:St->Prop) (τ:Nat->AV) (β:Nat->BX) (ε:Nat->EN) (π:Nat->MP) (dst:Option Tmp) (op:Op) (ty:TypeId) (pos:String) (aft:Array Edge) (j:Nat) (want:Bool) :
  WsF P kind ops (⟨dst,op,ty,pos,aft,some (j,want)⟩::l) K ⟨τ,β,ε,π⟩=bj ((ops[j]?).bind (·.dst)) fun d=>jR (τ d) want
    (W P kind none dst (WsF P kind ops l K) (bX kind op (St.setT ⟨τ,β,ε,π⟩ d (sc (.bool want)))) op)
    (WsF P kind ops l K ((St.setT ⟨τ,β,ε,π⟩ d (sc (.bool !want))).put dst (.tup [])))
    (WsF P kind ops l K (St.put ⟨τ,β,ε,π⟩ dst (.tup []))):=(rfl)
section
variable (kind:FuncId->CK) (st:St)
theorem F3 (x:Operand):bX kind (.move x) st=st:=(rfl)
theorem zH (x:Operand):bX kind (.assign x) st=st:=(rfl)
theorem F0 (x y z:Operand):bX kind (.pick x y z) st=st:=(rfl)
theorem B9 (T:TypeId):bX kind (.alloc T) st=st:=(rfl)
theorem Ih (T:TypeId) (x:Operand):bX kind (.box T x) st=vJ (st.ev x) st:=(rfl)
theorem B7 (T:TypeId) (ps:List (Nat×Operand)):bX kind (.build T ⟨ps⟩) st=frzs (ps.map (·.2)) st:=(rfl)
theorem sM (T:TypeId) (n:Nat) (ps:List (Nat×Operand)):bX kind (.buildSlice T n ⟨ps⟩) st=frzs (ps.map (·.2)) st:=(rfl)
theorem F4 (T:TypeId) (x:Operand):bX kind (.load T x) st=st:=(rfl)
theorem B8 (op:BinOp) (T:TypeId) (x y:Operand) (U:TypeId):bX kind (.binOp op T x y U) st=st:=(rfl)
theorem FZ (op:UnOp) (T:TypeId) (x:Operand):bX kind (.unOp op T x) st=st:=(rfl)
theorem xM (s d:TypeId) (x:Operand):bX kind (.convert s d x) st=st:=(rfl)
theorem B4 (T:TypeId) (x y:Operand):bX kind (.index T x y) st=st:=(rfl)
theorem xL (x:Operand) (n:Nat):bX kind (.extract x n) st=st:=(rfl)
theorem B5 (T:TypeId) (x:Operand) (f:Nat):bX kind (.field T x f) st=st:=(rfl)
theorem uj (T:TypeId) (x:Operand) (f:Nat):bX kind (.fieldAddr T x f) st=st:=(rfl)
theorem ui (T:TypeId) (x y:Operand):bX kind (.indexAddr T x y) st=st:=(rfl)
theorem B2 (T:TypeId) (x:Operand) (l h m:Option Operand):bX kind (.slice T x l h m) st=st:=(rfl)
theorem uh (T:TypeId) (x y:Operand):bX kind (.makeSlice T x y) st=st:=(rfl)
theorem B1 (T:TypeId) (x y:Operand):bX kind (.store T x y) st=vJ (st.ev y) st:=(rfl)
theorem zG (b:Builtin) (as':Array Operand) (ts:Array TypeId):bX kind (.call ⟨.builtin b,as',ts⟩) st=st:=(rfl)
theorem zF (x:Operand) (as':List Operand) (ts:Array TypeId):bX kind (.call ⟨.value x,⟨as'⟩,ts⟩) st=frzs (bif fP kind x then[]else as') st:=(rfl)
theorem xJ (T:TypeId) (x:Option Operand):bX kind (.makeMap T x) st=st:=(rfl)
theorem zE (T:TypeId) (x y:Operand) (c:Bool):bX kind (.lookup T x y c) st=st:=(rfl)
theorem ug (T:TypeId) (x y z:Operand):bX kind (.mapUpdate T x y z) st=st:=(rfl)
theorem B3 (T:TypeId) (x:Operand):bX kind (.range T x) st=st:=(rfl)
theorem F1 (x:Operand) (c:Bool):bX kind (.next x c) st=st:=(rfl)
theorem B6 (x:Operand):bX kind (.entry x) st=st:=(rfl)
theorem vI (f:Go.Fn) (x y:Array Operand):bX kind (.makeFunc f x y) st=st:=(rfl)
theorem Jq:frzs [] st=st:=(rfl)
theorem Gw (x:Operand) (l:List Operand):frzs (x::l) st=frzs l (vJ (st.ev x) st):=(rfl)
theorem Pb (x:IV):vJ (.i x) st=st:=(rfl)
theorem Mf (x:List (List C)):vJ (.fl x) st=st:=(rfl)
theorem Jr (x:List IV):vJ (.tup x) st=st:=(rfl)
theorem Me (t g n:Nat):vJ (.sl t g n) st=st.freeze t:=(rfl)
end
theorem Nj (P:Program) (kind:FuncId->CK) (Q:bg->St->Prop) (τ:Nat->AV) (β:Nat->BX) (ε:Nat->EN) (π:Nat->MP):CW P kind .skip Q ⟨τ,β,ε,π⟩=Q .normal ⟨τ,β,ε,π⟩:=(rfl)
theorem P5 (P:Program) (kind:FuncId->CK) (Q:bg->St->Prop) (τ:Nat->AV) (β:Nat->BX) (ε:Nat->EN) (π:Nat->MP) (id:Nat) (l:List Oper):CW P kind (.region id ⟨l⟩ false) Q ⟨τ,β,ε,π⟩=WsF P kind l l (Q .normal) ⟨τ,β,ε,π⟩:=(rfl)
theorem Nm (P:Program) (kind:FuncId->CK) (Q:bg->St->Prop) (τ:Nat->AV) (β:Nat->BX) (ε:Nat->EN) (π:Nat->MP) (id:Nat) (l:List Oper):CW P kind (.region id ⟨l⟩ true) Q ⟨τ,β,ε,π⟩=tE P kind l (Q .normal) ⟨τ,β,ε,π⟩ ⟨⟩:=(rfl)
theorem P3 (P:Program) (kind:FuncId->CK) (Q:bg->St->Prop) (τ:Nat->AV) (β:Nat->BX) (ε:Nat->EN) (π:Nat->MP) (x y:Code):CW P kind (.seq x y) Q ⟨τ,β,ε,π⟩=CW P kind x (jl (CW P kind y Q) Q) ⟨τ,β,ε,π⟩:=(rfl)
theorem Nn (P:Program) (kind:FuncId->CK) (Q:bg->St->Prop) (τ:Nat->AV) (β:Nat->BX) (ε:Nat->EN) (π:Nat->MP) (c:Operand) (x y:Code):CW P kind (.cond c x y) Q ⟨τ,β,ε,π⟩ =
  pL (St.ev ⟨τ,β,ε,π⟩ c) fun b=>wIf b (CW P kind x Q ⟨τ,β,ε,π⟩) (CW P kind y Q ⟨τ,β,ε,π⟩) ⟨⟩:=(rfl)
theorem KR (P:Program) (kind:FuncId->CK) (Q:bg->St->Prop) (τ:Nat->AV) (β:Nat->BX) (ε:Nat->EN) (π:Nat->MP) (id:Nat) (x:Code):CW P kind (.block id x) Q ⟨τ,β,ε,π⟩=CW P kind x (mF id Q) ⟨τ,β,ε,π⟩:=(rfl)
theorem Nk (P:Program) (kind:FuncId->CK) (Q:bg->St->Prop) (τ:Nat->AV) (β:Nat->BX) (ε:Nat->EN) (π:Nat->MP) (x:Code):CW P kind (.loop x) Q ⟨τ,β,ε,π⟩=m6 P kind x Q ⟨τ,β,ε,π⟩ ⟨⟩:=(rfl)
theorem Nl (P:Program) (kind:FuncId->CK) (Q:bg->St->Prop) (τ:Nat->AV) (β:Nat->BX) (ε:Nat->EN) (π:Nat->MP) (id:Nat):CW P kind (.exit id) Q ⟨τ,β,ε,π⟩=Q (.exit id) ⟨τ,β,ε,π⟩:=(rfl)
theorem P4 (P:Program) (kind:FuncId->CK) (Q:bg->St->Prop) (τ:Nat->AV) (β:Nat->BX) (ε:Nat->EN) (π:Nat->MP):CW P kind .ret Q ⟨τ,β,ε,π⟩=Q .ret ⟨τ,β,ε,π⟩:=(rfl)
theorem KN (P:Program) (kind:FuncId->CK) (Q:bg->St->Prop) (τ:Nat->AV) (β:Nat->BX) (ε:Nat->EN) (π:Nat->MP) (x:Code):CW P kind (.scope x) Q ⟨τ,β,ε,π⟩=CW P kind x Q ⟨τ,β,ε,π⟩:=(rfl)
theorem KO (P:Program) (kind:FuncId->CK) (Q:bg->St->Prop) (τ:Nat->AV) (β:Nat->BX) (ε:Nat->EN) (π:Nat->MP) (l:Nat):CW P kind (.label l) Q ⟨τ,β,ε,π⟩=Q .normal ⟨τ,β,ε,π⟩:=(rfl)
def Ll (P:Program) (β:Nat->BX) (T:TypeId) (v:AV):Option IV :=
 match v with
 | .bp t g off=>bif Nat.blt 0 g && Nat.beq (β t).gen g then(tinfo P T).bind fun ti=>ldv ti ((β t).cs.drop off)else none
 | _=>none
theorem Lm (P:Program) (p:Tmp) (T:TypeId) (τ:Nat->AV) (β:Nat->BX) (ε:Nat->EN) (π:Nat->MP):St.res1 P ⟨τ,β,ε,π⟩ (.cell p T)=Ll P β T (τ p):=by
 simp only[St.res1,Ll];cases tinfo P T<;>cases τ p<;>simp
theorem Lk (P:Program) (β:Nat->BX) (T:TypeId) (t g off:Nat) (h1:(β t).gen=g) (h2:0<g):Ll P β T (.bp t g off)=(tinfo P T).bind fun ti=>ldv ti ((β t).cs.drop off):=by
 have hb:Nat.blt 0 g=true:=by simpa using h2
 simp[Ll,h1,hb]
theorem K0 (b:Bool) (K:Bool->Prop):pL (.i (.c (.v (.bool b)))) K=K b:=(rfl)
theorem Qb (k k':IntKind) (a b:Int) (K:IntKind->Int->Int->Prop):wI2 (.i (.c (.v (.int k a)))) (.i (.c (.v (.int k' b)))) K=(k=k'/\K k a b):=(rfl)
theorem N7 (xs:List IV) (K:List IV->Prop):Bv (.tup xs) K=K xs:=(rfl)
theorem Og (xs:List C) (K:List C->Prop):BK (.i (.g xs)) K=K xs:=(rfl)
theorem K4 (x:Operand) (K1:Operand->Prop) (K2:Operand->Operand->Prop):kA [x] K1 K2=K1 x:=(rfl)
theorem K3 (x y:Operand) (K1:Operand->Prop) (K2:Operand->Operand->Prop):kA [x,y] K1 K2=K2 x y:=(rfl)
theorem Ha (k:IntKind) (K:IntKind->Prop):P9 (.int k) K=K k:=(rfl)
theorem E8 (k:IntKind) (n:Int) (K:Int->Prop):Nu (.int k n) K=K n:=(rfl)
theorem He (A B:Prop):vS .fn A B=A:=(rfl)
theorem yW (A B:Prop):vS .fresh A B=B:=(rfl)
theorem N8 (f:FuncId) (K:FuncId->Prop):Hc (.value (.func f)) K=K f:=(rfl)
theorem E6 (A:Prop) (B:Operand->Prop):Hb none A B=A:=(rfl)
theorem E5 (y:Operand) (A:Prop) (B:Operand->Prop):Hb (some y) A B=B y:=(rfl)
theorem y3 (b:Bool) (A B C:Prop):jR (.i (.c (.v (.bool b)))) true A B C=wIf b A B ⟨⟩:=(rfl)
theorem xk (b:Bool) (A B C:Prop):jR (.i (.c (.v (.bool b)))) false A B C=wIf b B A ⟨⟩:=(rfl)
theorem Hl (w:Bool) (A B C:Prop):jR (.tup []) w A B C=C:=(rfl)
theorem Hi (A B:Prop):wIf true A B ⟨⟩=A:=by simp[wIf]
theorem E9 (A B:Prop):wIf false A B ⟨⟩=B:=by simp[wIf]
theorem Hj (b:Bool) (A B:Prop):wIf (!b) A B ⟨⟩=wIf b B A ⟨⟩:=by cases b<;>simp[wIf]
theorem Fx (P:Program) (ps:List (Nat×Operand)):HF P none ps=True:=(rfl)
theorem Fw (P:Program) (x:Nat×TypeId) (ps:List (Nat×Operand)):HF P (some x) ps=(ps=[]/\tinfo P x.2≠none):=(rfl)
theorem Cd (x:IV) (t:Nat):pY (.i x) t=True:=(rfl)
theorem zK (x:List (List C)) (t:Nat):pY (.fl x) t=True:=(rfl)
theorem Fj (st:St) (D:Option DI) (l:List C) (K:List C->Prop):st.wCells D (.ip l) K=K l:=(rfl)
theorem Fl (st:St) (D:Option DI) (t g off:Nat) (K:List C->Prop):st.wCells D (.bp t g off) K=(((st.b t).gen=g/\0<g/\okB D t)/\K ((st.b t).cs.drop off)):=(rfl)
theorem Fk (st:St) (D:Option DI) (t g idx off:Nat) (K:List C->Prop):st.wCells D (.ep t g idx off) K=(((st.e t).gen=g/\0<g/\okE D t)/\o5 (st.e t).rs idx fun r=>K (r.drop off)):=(rfl)
theorem Md (rs:List (List C)):(AV.fl rs).full = .fl rs:=(rfl)
theorem Mc (t g l:Nat):(AV.sl t g l).full = .sl t g l:=(rfl)
theorem Jp:(AV.i (.c (.v (.slice none 0 0)))).full = .fl []:=(rfl)
theorem LG:mkZ [.lst []]=[.v (.slice none 0 0)]:=(rfl)
theorem QW (x:Value):mkZ [.v x]=[.v x]:=(rfl)
theorem LE (a b:C) (l:List C):mkZ (a::b::l)=a::b::l:=by unfold mkZ;split<;>simp_all
theorem H7 (τ:Nat->AV) (β:Nat->BX) (ε:Nat->EN) (π:Nat->MP) (k:Nat):(St.mk τ β ε π).relax k=⟨τ,β,upd ε k { ε k with rs:=(ε k).rs.map (·.map nw) },π⟩:=(rfl)
attribute [go_sem] Option.map_some Md Mc Jp LG QW LE H7
theorem K6 (st:St) (d:Nat) (te:TI) (xs rs:List (List C)) (y:AV) (K:St->Prop):st.wApp d te xs y (.fl rs) K=(lens te.size rs/\(rs.length+xs.length)*te.bytes<=140737488355328 /\
  K (st.app (some d) { v := .sl d ((st.e d).gen+1) (rs.length+xs.length),ne:=some ⟨(st.e d).gen+1,te.size,rs++xs,!xs.isEmpty,true⟩ })):=(rfl)
theorem K5 (st:St) (d:Nat) (te:TI) (xs:List (List C)) (t g len:Nat) (y:AV) (K:St->Prop):st.wApp d te xs y (.sl t g len) K =
  (((st.e t).gen=g/\0<g/\(st.e t).app=true/\len=(st.e t).rs.length/\te.size=(st.e t).sz/\d≠t)/\(len+xs.length)*te.bytes<=140737488355328/\pY y t /\
   K (st.app (some d) { v := .sl d ((st.e d).gen+1) (len+xs.length),ne:=some ⟨(st.e d).gen+1,te.size,(st.e t).rs++xs,(st.e t).m || !xs.isEmpty,true⟩,kill:=some t })):=(rfl)
theorem Od (st:St) (D:Option DI) (o:Nat) (cs:List C) (K:AV->Prop):st.wFA D o (.ip cs) K=(o<=cs.length/\K (.ip (cs.drop o))):=(rfl)
theorem Of (st:St) (D:Option DI) (o t g off:Nat) (K:AV->Prop):st.wFA D o (.bp t g off) K=(((st.b t).gen=g/\0<g/\okB D t)/\K (.bp t g (off+o))):=(rfl)
theorem Oe (st:St) (D:Option DI) (o t g i off:Nat) (K:AV->Prop):st.wFA D o (.ep t g i off) K=(((st.e t).gen=g/\0<g/\okE D t)/\K (.ep t g i (off+o))):=(rfl)
theorem KZ (P:Program) (st:St) (D:Option DI) (ti:TI) (i:Nat) (rs:List (List C)) (K:AV->Prop):St.wIA P st D ti i (.i (.c (.lst rs))) K=bj (ti.elem.bind (tinfo P)) fun te=>o5 rs i fun r=>r.length=te.size/\K (.ip r):=(rfl)
theorem N9 (P:Program) (st:St) (D:Option DI) (ti:TI) (i t g len:Nat) (K:AV->Prop):St.wIA P st D ti i (.sl t g len) K =
  bj (ti.elem.bind (tinfo P)) fun te=>((st.e t).gen=g/\0<g/\okE D t/\te.size=(st.e t).sz)/\i<len/\K (.ep t g i 0):=(rfl)
theorem Ob (P:Program) (st:St) (D:Option DI) (ti:TI) (i t g off:Nat) (K:AV->Prop):St.wIA P st D ti i (.bp t g off) K =
  bj ti.arr fun a=>bj (tinfo P a.2) fun te=>((st.b t).gen=g/\0<g/\okB D t)/\i<a.1/\K (.bp t g (off+i*te.size)):=(rfl)
theorem Oa (P:Program) (st:St) (D:Option DI) (ti:TI) (i:Nat) (cs:List C) (K:AV->Prop):St.wIA P st D ti i (.ip cs) K =
  bj ti.arr fun a=>bj (tinfo P a.2) fun te=>i<a.1/\i*te.size<=cs.length/\K (.ip (cs.drop (i*te.size))):=(rfl)
theorem Bw (te:TI) (l h:Nat) (rs:List (List C)) (K:AV->Prop):oY te l h (.i (.c (.lst rs))) K=(lens te.size rs/\K (.i (.c (.lst ((rs.take h).drop l))))):=(rfl)
theorem E3 (te:TI) (l h t g n:Nat) (K:AV->Prop):oY te l h (.sl t g n) K=(if l=0 then K (.sl t g h)else l<h/\K (.sub t g l (h-l) te.size)):=(rfl)
theorem yV (te:TI) (l h:Nat) (rs:List (List C)) (K:AV->Prop):od te l h (.i (.c (.lst rs))) K=(lens te.size rs/\K (.fl ((rs.take h).drop l))):=(rfl)
theorem E2 (st:St) (n:Nat) (cs:List C) (t g off:Nat) (K:St->Prop):st.wStore n cs (.bp t g off) K=(((st.b t).gen=g/\0<g)/\off+n<=(st.b t).cs.length/\K (st.setB t ⟨g,cJ (st.b t).cs off cs⟩)):=(rfl)
theorem E1 (st:St) (n:Nat) (cs:List C) (t g i off:Nat) (K:St->Prop):st.wStore n cs (.ep t g i off) K=(((st.e t).gen=g/\0<g/\(st.e t).m=true)/\o5 (st.e t).rs i fun r=>off+n<=r.length /\
  K (st.setE t { st.e t with rs:=(st.e t).rs.set i (cJ r off cs) })):=(rfl)
theorem Gz (pl:List (Nat×Nat)) (cs:List C):mT pl cs []=some cs:=by simp[mT]
theorem CF (pl:List (Nat×Nat)) (cs xs:List C) (i:Nat) (l:List (Nat×List C)):mT pl cs ((i,xs)::l)=(pl[i]?).bind fun p=>if xs.length=p.2/\p.1+xs.length<=cs.length then mT pl (cJ cs p.1 xs) l else none:=by
 cases h:pl[i]?<;>simp[mT,h]
theorem JX:vQ []=some []:=(rfl)
theorem PF (x:Value) (l:List C):vQ (.v x::l)=(vQ l).map (x :: ·):=(rfl)
theorem My (x:C):IV.cells (.c x)=[x]:=(rfl)
theorem Mx (xs:List C):IV.cells (.g xs)=xs:=(rfl)
theorem rv_1 (x:IV):rv [x] = .i x:=(rfl)
theorem rv_2 (x y:IV) (l:List IV):rv (x::y::l) = .tup (x::y::l):=(rfl)
theorem rv_0:rv [] = .tup []:=(rfl)
theorem JO (st:St) (f:FuncId) (xs:Array Operand) (ts:Array TypeId):c8 st ⟨.value (.func f),xs,ts⟩=some f:=by simp[c8,St.ev]
theorem KX (P:Program) (b:Bool) (K:Value->Prop):wUn P .not (.bool b) K=K (.bool !b):=(rfl)
theorem KY (P:Program) (k:IntKind) (n:Int) (K:Value->Prop):wUn P .neg (.int k n) K=oZ k (0-n) K:=(rfl)
theorem za (P:Program) (T:TypeId) (x y:Operand) (k k':IntKind) (a b:Int) (K:Value->Prop):fp P .shl T x y (.int k a) (.int k' b) K=(0<=b/\K (.int k (k.wrap (a*2 ^ (min b.toNat k.bits))))):=rfl
theorem lg (P:Program) (T:TypeId) (x y:Operand) (k k':IntKind) (a b:Int) (K:Value->Prop):fp P .shr T x y (.int k a) (.int k' b) K=(0<=b/\K (.int k (a.fdiv (2 ^ (min b.toNat k.bits))))):=rfl
theorem BE (P:Program) (T:TypeId) (x y:Operand) (k':IntKind) (a:Int) (K:Value->Prop):fp P .shr T x y (.int .u64 a) (.int k' 32) K=K (.int .u64 (a/4294967296)):=by
 have e1:(min (32:Int).toNat (IntKind.bits .u64))=32:=aH;have e2:a.fdiv (2 ^ 32)=a/4294967296:=by rw[Int.fdiv_eq_ediv_of_nonneg _ aH];rfl
 rw[lg,e1,e2];simp
theorem BG (P:Program) (T:TypeId) (x y:Operand) (k':IntKind) (a:Int) (K:Value->Prop):fp P .shl T x y (.int .u64 a) (.int k' 32) K=K (.int .u64 ((a*4294967296) % 18446744073709551616)):=by
 have e1:(min (32:Int).toNat (IntKind.bits .u64))=32:=aH;rw[za,e1,mZ];simp
theorem HE (P:Program) (T:TypeId) (x y:Operand) (k k':IntKind) (a b:Int) (K:Value->Prop):fp P .add T x y (.int k a) (.int k' b) K=(k=k'/\oZ k (a+b) K):=(rfl)
theorem Ho (P:Program) (T:TypeId) (x y:Operand) (k k':IntKind) (a b:Int) (K:Value->Prop):fp P .sub T x y (.int k a) (.int k' b) K=(k=k'/\oZ k (a-b) K):=(rfl)
theorem Hu (P:Program) (T:TypeId) (x y:Operand) (k k':IntKind) (a b:Int) (K:Value->Prop):fp P .mul T x y (.int k a) (.int k' b) K=(k=k'/\oZ k (a*b) K):=(rfl)
theorem Hq (P:Program) (T:TypeId) (x y:Operand) (k k':IntKind) (a b:Int) (K:Value->Prop):fp P .quo T x y (.int k a) (.int k' b) K=(k=k'/\b≠0/\oZ k (a.tdiv b) K):=(rfl)
theorem Hp (P:Program) (T:TypeId) (x y:Operand) (k k':IntKind) (a b:Int) (K:Value->Prop):fp P .rem T x y (.int k a) (.int k' b) K=(k=k'/\b≠0/\K (.int k (a.tmod b))):=(rfl)
theorem tH (P:Program) (T:TypeId) (x y:Operand) (k k':IntKind) (a b:Int) (K:Value->Prop):fp P .and T x y (.int k a) (.int k' b) K=(k=k'/\K (.int k (k.wrap (BitVec.ofInt k.bits a &&& BitVec.ofInt k.bits b).toNat))):=(rfl)
theorem xo (P:Program) (T:TypeId) (x y:Operand) (k k':IntKind) (a b:Int) (K:Value->Prop):fp P .or T x y (.int k a) (.int k' b) K=(k=k'/\K (.int k (k.wrap (BitVec.ofInt k.bits a ||| BitVec.ofInt k.bits b).toNat))):=(rfl)
theorem y9 (P:Program) (T:TypeId) (x y:Operand) (k k':IntKind) (a b:Int) (K:Value->Prop):fp P .xor T x y (.int k a) (.int k' b) K=(k=k'/\K (.int k (k.wrap (BitVec.ofInt k.bits a ^^^ BitVec.ofInt k.bits b).toNat))):=(rfl)
theorem HC (P:Program) (T:TypeId) (x y:Operand) (k k':IntKind) (a b:Int) (K:Value->Prop):fp P .eql T x y (.int k a) (.int k' b) K=(k=k'/\K (.bool (decide (a=b)))):=(rfl)
theorem Hr (P:Program) (T:TypeId) (x y:Operand) (k k':IntKind) (a b:Int) (K:Value->Prop):fp P .neq T x y (.int k a) (.int k' b) K=(k=k'/\K (.bool (!decide (a=b)))):=(rfl)
theorem Hv (P:Program) (T:TypeId) (x y:Operand) (k k':IntKind) (a b:Int) (K:Value->Prop):fp P .lss T x y (.int k a) (.int k' b) K=(k=k'/\K (.bool (decide (a<b)))):=(rfl)
theorem Hw (P:Program) (T:TypeId) (x y:Operand) (k k':IntKind) (a b:Int) (K:Value->Prop):fp P .leq T x y (.int k a) (.int k' b) K=(k=k'/\K (.bool (decide (a<=b)))):=(rfl)
theorem Hx (P:Program) (T:TypeId) (x y:Operand) (k k':IntKind) (a b:Int) (K:Value->Prop):fp P .gtr T x y (.int k a) (.int k' b) K=(k=k'/\K (.bool (decide (b<a)))):=(rfl)
theorem HA (P:Program) (T:TypeId) (x y:Operand) (k k':IntKind) (a b:Int) (K:Value->Prop):fp P .geq T x y (.int k a) (.int k' b) K=(k=k'/\K (.bool (decide (b<=a)))):=(rfl)
theorem HD (P:Program) (T:TypeId) (x y:Operand) (a b:Bool) (K:Value->Prop):fp P .eql T x y (.bool a) (.bool b) K=(P.underlying T=some .bool/\K (.bool (a == b))):=(rfl)
theorem Hs (P:Program) (T:TypeId) (x y:Operand) (a b:Bool) (K:Value->Prop):fp P .neq T x y (.bool a) (.bool b) K=(P.underlying T=some .bool/\K (.bool (!(a == b)))):=(rfl)
theorem Ju {α:Type} (p:α->Prop):(∀ x∈([]:List α),p x)=True:=au
def vE (I:Nat->(Nat->AV)->(Nat->BX)->(Nat->EN)->Prop) (n:Nat) (s:St):Prop:=∃ m τ β ε π,bA s ⟨τ,β,ε,π⟩/\m<n/\I m τ β ε
theorem again {I:Nat->(Nat->AV)->(Nat->BX)->(Nat->EN)->Prop} {n:Nat} (m:Nat) {τ:Nat->AV} {β:Nat->BX} {ε:Nat->EN} {π:Nat->MP} (hm:m<n) (h:I m τ β ε):vE I n ⟨τ,β,ε,π⟩:=⟨m,τ,β,ε,π,bA.refl _,hm,h⟩
theorem vc {I:Nat->(Nat->AV)->(Nat->BX)->(Nat->EN)->Prop} {n:Nat} (m:Nat) {s:St} {τ:Nat->AV} {β:Nat->BX} {ε:Nat->EN} {π:Nat->MP} (hw:bA s ⟨τ,β,ε,π⟩) (hm:m<n) (h:I m τ β ε):vE I n s:=⟨m,τ,β,ε,π,hw,hm,h⟩
theorem Cl {P:Program} {kind:FuncId->CK} {c:Code} {Q:bg->St->Prop} (I:Nat->(Nat->AV)->(Nat->BX)->(Nat->EN)->Prop) (n:Nat) {τ:Nat->AV} {β:Nat->BX} {ε:Nat->EN} {π:Nat->MP}
  (h0:I n τ β ε) (round:∀ n τ β ε π,I n τ β ε->CW P kind c (jl (vE I n) Q) ⟨τ,β,ε,π⟩):m6 P kind c Q ⟨τ,β,ε,π⟩ ⟨⟩ :=
 WP.loop (fun n s=>I n s.t s.b s.e) ⟨_,bA.refl _,h0⟩ fun n s h=>(bQ c (round n s.t s.b s.e s.p h)).mono fun e s' hs=>by
  cases e with
  | normal =>
   obtain⟨m,τ,β,ε,π,hw,hm,hI⟩:=hs;exact⟨⟨τ,β,ε,π⟩,m,hw,hm,hI⟩
  | exit id=>exact hs
  | ret=>exact hs
def LK (Mid:bg->(Nat->AV)->(Nat->BX)->(Nat->EN)->Prop) (e:bg) (s:St):Prop:=Mid e s.t s.b s.e
theorem LJ (Mid:bg->(Nat->AV)->(Nat->BX)->(Nat->EN)->Prop) (e:bg) (τ:Nat->AV) (β:Nat->BX) (ε:Nat->EN) (π:Nat->MP):LK Mid e ⟨τ,β,ε,π⟩=Mid e τ β ε:=(rfl)
theorem jX {P:Program} {kind:FuncId->CK} {c:Code} {Q:bg->St->Prop} (I:Nat->(Nat->AV)->(Nat->BX)->(Nat->EN)->Prop) (Mid:bg->(Nat->AV)->(Nat->BX)->(Nat->EN)->Prop) (n:Nat)
  {τ:Nat->AV} {β:Nat->BX} {ε:Nat->EN} {π:Nat->MP} (h0:I n τ β ε) (round:∀ n τ β ε π,I n τ β ε->CW P kind c (jl (vE I n) (LK Mid)) ⟨τ,β,ε,π⟩)
  (fin:∀ e τ β ε π,Mid e τ β ε->Q e ⟨τ,β,ε,π⟩):m6 P kind c Q ⟨τ,β,ε,π⟩ ⟨⟩ :=
 WP.mono (Cl (kind:=kind) I n h0 round) fun e s hs=>fin e s.t s.b s.e s.p hs
attribute [congr] Bx By y8 Fb Bu BJ xm Bz BI yX Ff Fa xj vG xh xl MN
attribute [go_sem] Ju LJ Mm NP Lm Lk decide_true decide_false Fx Fw Cd zK Gz CF JX PF My Mx rv_1 rv_2 rv_0 JO
attribute [go_sem] PK J3 PI MR Rw MO yp PL MQ PH GQ MK GP ML AS AR MI AQ MH PM Fp Fo Fm xn y6 BB GO J2 AP MJ PJ MM Dc zw zu
attribute [go_sem] MG J1 J0 F3 zH F0 B9 Ih B7 sM F4 B8 FZ xM B4 xL B5 uj ui B2 uh B1 zG zF xJ zE ug B3 F1 B6 vI Jq Gw Pb Mf Jr Me
attribute [go_sem] PG MF ME Nj P5 Nm P3 Nn KR Nk Nl P4 KN KO
attribute [go_sem] sc Dy bT Pf Jv Mi CX AA CV Ib MB MA JU pv_v pv_g Oo La K9 HY Lj Li LR OY OX Q9 Pe Pd H4 Cg Lw IE ID IF F9 Iu It Ot zM F7 IA Iw Iz Iv LU LT L5 Cw Cx Gr L7 L6 pQ Le Ld Gy t_mk b_mk e_mk IS Gg IZ Gm mZ m5 KW fE St.partCells cJ List.getElem?_cons_zero List.getElem?_cons_succ List.getElem?_nil List.drop_succ_cons List.drop_zero List.drop_nil List.take_succ_cons List.take_zero List.take_nil List.length_cons List.length_nil az List.map_cons List.map_nil List.append_nil List.nil_append List.cons_append List.foldl_cons List.foldl_nil List.getElem?_map List.getElem?_toArray List.forall_mem_cons List.all_cons List.all_nil Option.bind_some Option.map_some Option.bind_none Option.map_none cond_true cond_false Bool.not_true Bool.not_false Bool.true_and Bool.false_and Bool.and_true Bool.and_false Bool.true_or Bool.false_or Bool.or_true Bool.or_false if_true if_false true_and and_true or_true true_or false_or or_false false_and and_false true_implies false_implies implies_true ne_eq not_true not_false_iff reduceCtorEq Nat.zero_add Nat.add_zero Nat.zero_lt_succ ay forall_const Bool.true_eq_false Bool.false_eq_true eq_self Nat.sub_self Nat.zero_le Nat.mul_zero Nat.zero_mul
attribute [go_sem ↓] BE BG xg vF E4 Hk yY Fh Fg Hh Hf Hg K0 Qb N7 Og K4 K3 Ha E8 He yW N8 E6 E5 y3 xk Hl Hi E9 Hj Fj Fl Fk K6 K5 Od Of Oe KZ N9 Ob Oa Bw E3 yV E2 E1 KX KY HE Ho Hu Hq Hp tH xo y9 HC Hr Hv Hw Hx HA HD Hs Fc Fe Hm jw BO FG iP AG C6
theorem QO {α:Type} (a:α) (l:List α):(a::l)[0]?=some a:=(rfl)
theorem QN {α:Type} (a:α) (l:List α) (n:Nat):(a::l)[n+1]?=l[n]?:=(rfl)
theorem QL {α β:Type} (f:α->β) (a:α):(some a).map f=some (f a):=(rfl)
theorem QM {α β:Type} (f:α->Option β) (a:α):(some a).bind f=f a:=(rfl)
theorem QJ {α:Type} (n:Nat) (a:α) (l:List α):(a::l).take (n+1)=a::l.take n:=(rfl)
theorem QK {α:Type} (l:List α):l.take 0=[]:=au
theorem QP {α:Type} (a b:α):cond true a b=a:=(rfl)
theorem QQ {α:Type} (a b:α):cond false a b=b:=(rfl)
attribute [go_sem 10000] QO QN QL QM QJ QK QP QQ
def inR:List (Nat×Nat)->Nat->Bool
 | [],_=>false
 | (a,b)::l,n=>decide (a<=n) && decide (n<=b) || inR l n
theorem L8 (n:Nat):inR [] n=false:=(rfl)
theorem Jf (a b:Nat) (l:List (Nat×Nat)) (n:Nat):inR ((a,b)::l) n=(decide (a<=n) && decide (n<=b) || inR l n):=(rfl)
def Kp {α:Type} (A:List (Nat×Nat)) (f g:Nat->α):Prop:=∀ n,inR A n=false->g n=f n
theorem Kp.refl {α:Type} (A:List (Nat×Nat)) (f:Nat->α):Kp A f f:=fun _ _=>rfl
theorem uC {α:Type} (A:List (Nat×Nat)) (f g:Nat->α) (d:Nat) (v:α) (h:inR A d=true):Kp A f (upd g d v)=Kp A f g:=by
 refine propext ⟨fun k n hn=>?_,fun k n hn=>?_⟩
 ·have:=k n hn;rw[bT]at this;split at this
  ·rename_i e;subst e;rw[h]at hn;simp at hn
  ·exact this
 ·rw[bT];split
  ·rename_i e;subst e;rw[h]at hn;simp at hn
  ·exact k n hn
theorem Kp.step {α:Type} {A A':List (Nat×Nat)} {f g h:Nat->α} (k:Kp A' g h) (hs:∀ n,inR A n=false->inR A' n=false) (k':Kp A f g):Kp A f h:=fun n hn=>(k n (hs n hn)).trans (k' n hn)
theorem Kp.step2 {α:Type} {A A':List (Nat×Nat)} {f g0 g h:Nat->α} (k0:Kp A f g0) (k:Kp A' g h) (hs:∀ n,inR A n=false->inR A' n=false) (e:Kp A f g):Kp A f h:=fun n hn=>(k n (hs n hn)).trans (e n hn)
theorem a8 {P:Program} {kind:FuncId->CK} {c:Code} {Q:bg->St->Prop} (A B E:List (Nat×Nat)) (I:Nat->(Nat->AV)->(Nat->BX)->(Nat->EN)->Prop) (Mid:bg->(Nat->AV)->(Nat->BX)->(Nat->EN)->Prop) (n:Nat)
  {τ0:Nat->AV} {β0:Nat->BX} {ε0:Nat->EN} {π0:Nat->MP} (h0:I n τ0 β0 ε0)
  (round:∀ n τ β ε π,Kp A τ0 τ->Kp B β0 β->Kp E ε0 ε->I n τ β ε->CW P kind c (jl (vE (fun n τ β ε=>Kp A τ0 τ/\Kp B β0 β/\Kp E ε0 ε/\I n τ β ε) n) (LK (fun e τ β ε=>Kp A τ0 τ/\Kp B β0 β/\Kp E ε0 ε/\Mid e τ β ε))) ⟨τ,β,ε,π⟩)
  (fin:∀ e τ β ε π,Kp A τ0 τ->Kp B β0 β->Kp E ε0 ε->Mid e τ β ε->Q e ⟨τ,β,ε,π⟩):m6 P kind c Q ⟨τ0,β0,ε0,π0⟩ ⟨⟩ :=
 jX (fun n τ β ε=>Kp A τ0 τ/\Kp B β0 β/\Kp E ε0 ε/\I n τ β ε) (fun e τ β ε=>Kp A τ0 τ/\Kp B β0 β/\Kp E ε0 ε/\Mid e τ β ε) n ⟨Kp.refl _ _,Kp.refl _ _,Kp.refl _ _,h0⟩
  (fun n τ β ε π h=>round n τ β ε π h.1 h.2.1 h.2.2.1 h.2.2.2) (fun e τ β ε π h=>fin e τ β ε π h.1 h.2.1 h.2.2.1 h.2.2.2)
theorem bt {P:Program} {kind:FuncId->CK} {c:Code} {Q:bg->St->Prop} (A B E:List (Nat×Nat)) (I:Nat->(Nat->AV)->(Nat->BX)->(Nat->EN)->Prop) (Mid:bg->(Nat->AV)->(Nat->BX)->(Nat->EN)->Prop) (n:Nat)
  {τ0:Nat->AV} {β0:Nat->BX} {ε0:Nat->EN} {π0:Nat->MP} (h0:I n τ0 β0 ε0)
  (round:∀ n τ β ε π,Kp A τ0 τ->Kp B β0 β->Kp E ε0 ε->I n τ β ε->CW P kind c (jl (vE (fun n τ β ε=>Kp A τ0 τ/\Kp B β0 β/\Kp E ε0 ε/\I n τ β ε) n) (LK (fun e τ β ε=>Kp A τ0 τ/\Kp B β0 β/\Kp E ε0 ε/\Mid e τ β ε))) ⟨τ,β,ε,π⟩)
  (fin:∀ e τ β ε π,Kp A τ0 τ->Kp B β0 β->Kp E ε0 ε->Mid e τ β ε->∃ s',bA ⟨τ,β,ε,π⟩ s'/\Q e s'):m6 P kind c Q ⟨τ0,β0,ε0,π0⟩ ⟨⟩ :=
 WP.post (jX (Q:=fun e s=>∃ s',bA s s'/\Q e s') (fun n τ β ε=>Kp A τ0 τ/\Kp B β0 β/\Kp E ε0 ε/\I n τ β ε) (fun e τ β ε=>Kp A τ0 τ/\Kp B β0 β/\Kp E ε0 ε/\Mid e τ β ε) n ⟨Kp.refl _ _,Kp.refl _ _,Kp.refl _ _,h0⟩
  (fun n τ β ε π h=>round n τ β ε π h.1 h.2.1 h.2.2.1 h.2.2.2) (fun e τ β ε π h=>fin e τ β ε π h.1 h.2.1 h.2.2.1 h.2.2.2))
attribute [go_sem] uC L8 Jf List.contains_nil List.contains_cons
attribute [go_sem] reduceIte Nat.reduceEqDiff Nat.reduceAdd Nat.reduceMul Nat.reduceLT Nat.reduceLeDiff Nat.reduceSub Nat.reduceBEq
def kd (f:FuncId):CK:=if f=67 then .fresh else if f=161 then .fresh else if f=242 then .fresh else if f=248 then .fresh else if f=62 then .fresh else if f=89 then .fresh else if f=255 then .fresh else if f=155 then .sem else if f=157 then .sem else if f=197 then .sem else if f=77 then .sem else if f=95 then .sem else if f=256 then .sem else if f=117 then .sem else if f=136 then .sem else if f=258 then .sem else .fn
theorem aJ {f:FuncId} {fn:Func} {c:Code} {rl:List ResultVar} {nt:Nat} {args res:List IV} (h:CW Tryz.prog kd c (Mm Tryz.prog rl res) (iy args)) (hf:Tryz.prog.funcs[f]?=some fn:=by rfl ) (hb:fn.body=some c:=by rfl ) (hr:fn.results=⟨rl⟩:=by rfl ) (hnt:fn.ntmps=nt:=by rfl )
  (hc : (!(fn.name == "runtime.NumGoroutine") && Nat.ble args.length nt && (asg c).all (fun d => Nat.blt d nt)) = true := by rfl ) : Fn Tryz.prog f args res := by
 simp only[Bool.and_eq_true,Bool.not_eq_true']at hc;exact KE kd hf hb hr hnt hc.1.1 (Nat.le_of_ble_eq_true hc.1.2) hc.2 h
theorem Q3 (f:FuncId):kd f=if f=67 then .fresh else if f=161 then .fresh else if f=242 then .fresh else if f=248 then .fresh else if f=62 then .fresh else if f=89 then .fresh else if f=255 then .fresh else if f=155 then .sem else if f=157 then .sem else if f=197 then .sem else if f=77 then .sem else if f=95 then .sem else if f=256 then .sem else if f=117 then .sem else if f=136 then .sem else if f=258 then .sem else .fn:=(rfl)
def bG (d:Int):List C:=[.v (.int .u32 d)]
def lL (neg:Bool) (mag:List Int):List C:=[.v (.bool neg),.lst (mag.map bG)]
abbrev aB (b:Bool):AV := .i (.c (.v (.bool b)))
abbrev aI (n:Int):AV := .i (.c (.v (.int .i64 n)))
abbrev aL (l:List Int):AV := .i (.c (.lst (l.map bG)))
theorem Et (d:Int):bG d=[.v (.int .u32 d)]:=(rfl)
theorem HU (l:List Int) (i:Nat) (d:Int):(l.map bG).set i [.v (.int .u32 d)]=(l.set i d).map bG:=by rw[List.map_set,Et]
theorem JV (l:List Int) (d:Int):l.map bG++[[.v (.int .u32 d)]]=(l++[d]).map bG:=by simp[bG]
theorem Gl (l:List Int):lens 1 (l.map bG)=True:=by simp[lens,bG]
attribute [go_sem] Q3 lL Et Gl HU JV List.length_take List.map_take List.map_drop
theorem MV (neg:Bool) (mag:List Int):Fn Tryz.prog 187 [.g (lL neg mag)] [.c (.v (.int .i64 (if mag.length=0 then 0 else if neg then -1 else 1)))]:=by
 refine aJ (fn:=Tryz.f187) ?_;simp -dsimp only[go_sem];refine bi (fun h=>?_) (fun h=>?_)<;>simp -dsimp only[go_sem]
 ·simp at h;simp[h]
 ·refine ld (fun h'=>?_) (fun h'=>?_)<;>simp -dsimp only[go_sem]
  ·simp at h;simp[h,h']
  ·simp at h;simp[h,h']
theorem PY (neg:Bool) (mag:List Int):Fn Tryz.prog 207 [.g (lL neg mag)] [.g (lL (!neg && decide (0<mag.length)) mag)]:=by
 refine aJ (fn:=Tryz.f207) ?_;simp -dsimp only[go_sem];refine ld (fun h=>?_) (fun h=>?_)<;>simp -dsimp only[go_sem]
 all_goals simp[h]
def trim:List Int->List Int
 | []=>[]
 | d::l=>if trim l=[]/\d=0 then[]else d::trim l
theorem gJ:∀(l:List Int),trim (l++[0])=trim l
 | []=>by simp[trim]
 | d::l=>by simp[trim,gJ l]
theorem qR:∀(l:List Int) (d:Int),d≠0->trim (l++[d])=l++[d]
 | [],d,h=>by simp[trim,h]
 | x::l,d,h=>by simp[trim,qR l d h]
theorem tO {α:Type} {l:List α} {n:Nat} (h:n<l.length):l.take (n+1)=l.take n++[l[n]]:=by
 rw[aq h]
theorem Lu (neg:Bool) (mag:List Int) (hm:mag.length<4611686018427387904):Fn Tryz.prog 182 [.c (.lst (mag.map bG)),.c (.v (.bool neg))] [.g (lL (neg && decide (0<(trim mag).length)) (trim mag))]:=by
 refine aJ (fn:=Tryz.f182) ?_;simp -dsimp only[go_sem];refine jX (fun n τ β _=>n<=mag.length/\trim mag=trim (mag.take n)/\τ 0=aL mag/\τ 1=aB neg/\τ 4 = .bp 4 1 0/\τ 5=aI n/\β 4=⟨1,lL false []⟩)
  (fun e τ β _=>e = .exit 0/\∃ n:Nat,n<=mag.length/\trim mag=mag.take n/\τ 0=aL mag/\τ 1=aB neg/\τ 4 = .bp 4 1 0/\τ 5=aI n/\β 4=⟨1,lL false []⟩) mag.length ?_ ?_ ?_
 ·simp -dsimp only[go_sem];simp
 ·rintro n τ β ε π ⟨h1,h2,h3,h4,h5,h6,h7⟩;simp -dsimp only[go_sem,h3,h4,h5,h6,h7];have hI:((n:Int)-1).toNat=n-1:=aw;refine bi (fun h=>?_) (fun h=>?_)<;>simp -dsimp only[go_sem,h3,h4,h5,h6,h7]
  ·refine⟨aw,aw,aV aw ?_⟩;simp -dsimp only[go_sem,h3,h4,h5,h6,h7];have hs:mag.take n=mag.take (n-1)++[mag[n-1]]:=by
    conv=>lhs;rw[show n=n-1+1 from by omega]
    rw[tO aw]
   refine bi (fun hz=>?_) (fun hz=>?_)<;>simp -dsimp only[go_sem,h3,h4,h5,h6,h7]
   ·refine⟨aw,again (n-1) aw ⟨aw,?_,?_⟩⟩
    ·rw[h2,hs];simp only[hI]at hz;rw[hz,gJ]
    ·simp -dsimp only[go_sem,h3,h4,h5,h6,h7];simp;omega
   ·refine⟨n,h1,?_,rfl⟩;rw[h2,hs];simp only[hI]at hz;exact qR _ _ hz
  ·refine⟨n,h1,?_,rfl⟩;rw[h2,show n=0 from by omega];simp[trim]
 ·rintro e τ β ε π ⟨rfl,n,h1,h2,h3,h4,h5,h6,h7⟩;simp -dsimp only[go_sem,h3,h4,h5,h6,h7];refine ld (fun h=>?_) (fun h=>?_)<;>simp -dsimp only[go_sem,h3,h4,h5,h6,h7]
  all_goals simp[h2,h]
  all_goals omega
def Dig (l:List Int):Prop:=∀ d∈l,0<=d/\d<4294967296
def val:List Int->Int
 | []=>0
 | d::l=>d+4294967296*val l
theorem Dig.nil:Dig []:=by simp[Dig]
theorem Dig.cons {d:Int} {l:List Int}:Dig (d::l)↔(0<=d/\d<4294967296)/\Dig l:=by simp[Dig]
theorem Dig.get {l:List Int} (h:Dig l) {i:Nat} (hi:i<l.length):0<=l[i]/\l[i]<4294967296:=h _ (List.getElem_mem hi)
theorem Dig.take {l:List Int} (h:Dig l) (n:Nat):Dig (l.take n):=fun d hd=>h d (List.mem_of_mem_take hd)
theorem Dig.drop {l:List Int} (h:Dig l) (n:Nat):Dig (l.drop n):=fun d hd=>h d (List.mem_of_mem_drop hd)
theorem Dig.append {l l':List Int} (h:Dig l) (h':Dig l'):Dig (l++l'):=fun d hd=>(List.mem_append.1 hd).elim (h d) (h' d)
theorem Dig.set {l:List Int} (h:Dig l) {i:Nat} {d:Int} (hd:0<=d/\d<4294967296):Dig (l.set i d):=fun x hx=>(List.mem_or_eq_of_mem_set hx).elim (h x) (fun e=>e ▸ hd)
theorem Dig.replicate (n:Nat):Dig (List.replicate n 0):=fun d hd=>by rw[(List.mem_replicate.1 hd).2];omega
theorem bm:∀{l:List Int},Dig l->0<=val l
 | [],_=>by simp[val]
 | d::l,h=>by
  rw[Dig.cons]at h;have:=bm h.2;simp only[val];omega
theorem eA:∀{l:List Int},Dig l->val l<4294967296 ^ l.length
 | [],_=>by simp[val]
 | d::l,h=>by
  rw[Dig.cons]at h;have:=eA h.2;simp only[val,List.length_cons,Int.pow_succ];omega
theorem it:∀(l l':List Int),val (l++l')=val l+4294967296 ^ l.length*val l'
 | [],l'=>by simp[val]
 | d::l,l'=>by
  simp only[List.cons_append,val,it l l',List.length_cons,Int.pow_succ];rw[Int.mul_add];have:(4294967296:Int)*(4294967296 ^ l.length*val l')=4294967296 ^ l.length*4294967296*val l':=by rw[<-Int.mul_assoc,Int.mul_comm 4294967296]
  omega
theorem kN (n:Nat):val (List.replicate n 0)=0:=by
 induction n with
 | zero=>rfl
 | succ n ih=>simp[List.replicate_succ,val,ih]
theorem cx (n:Nat):(0:Int)<4294967296 ^ n:=Int.pow_pos aH
theorem fO {l:List Int} {i:Nat} (h:i<l.length):val l=val (l.take i)+4294967296 ^ i*(l[i]+4294967296*val (l.drop (i+1))):=by
 conv=>lhs;rw[<-List.take_append_drop i l]
 rw[it,List.drop_eq_getElem_cons h];simp only[val,List.length_take,Nat.min_eq_left (Nat.le_of_lt h)]
theorem tK:∀(l:List Int),val (trim l)=val l
 | []=>rfl
 | d::l=>by
  unfold trim;split
  ·rename_i h;have:=tK l;rw[h.1]at this;simp only[val]at this ⊢;omega
  ·simp only[val,tK l]
theorem zd:∀{l:List Int},Dig l->Dig (trim l)
 | [],h=>h
 | d::l,h=>by
  rw[Dig.cons]at h;unfold trim;split
  ·exact Dig.nil
  ·exact Dig.cons.2 ⟨h.1,zd h.2⟩
theorem vU:∀(l:List Int),trim (trim l)=trim l
 | []=>rfl
 | d::l=>by
  have ih:=vU l;have e:trim (d::l)=if trim l=[]/\d=0 then[]else d::trim l:=rfl
  rw[e];split
  ·rfl
  ·rename_i h;have e':trim (d::trim l)=if trim (trim l)=[]/\d=0 then[]else d::trim (trim l):=rfl
   rw[e',ih,if_neg h]
theorem DA:∀(l:List Int),(trim l).length<=l.length
 | []=>ay _
 | d::l=>by
  have:=DA l;unfold trim;split<;>simp;omega
def Tr (l:List Int):Prop:=trim l=l
theorem Tr.tail {d:Int} {l:List Int} (h:Tr (d::l)):Tr l:=by
 have e:trim (d::l)=if trim l=[]/\d=0 then[]else d::trim l:=rfl
 unfold Tr at h ⊢;rw[e]at h;split at h
 ·simp at h
 ·exact(List.cons.inj h).2
theorem o7:∀{l:List Int},Dig l->Tr l->l≠[]->4294967296 ^ (l.length-1)<=val l
 | [d],h,ht,_=>by
  rw[Dig.cons]at h;have:d≠0:=by rintro rfl;simp[Tr,trim]at ht
  simp[val];omega
 | d::e::l,h,ht,_=>by
  rw[Dig.cons]at h;have:=o7 h.2 ht.tail au;simp only[List.length_cons,Nat.add_sub_cancel]at this ⊢;rw[Int.pow_succ];have e1:val (d::e::l)=d+4294967296*val (e::l):=rfl;rw[e1];omega
theorem mg {a b:Nat} (h:a<=b):(4294967296:Int) ^ a<=4294967296 ^ b:=by
 obtain⟨c,rfl⟩:=Nat.exists_eq_add_of_le h;rw[Int.pow_add];have h1:=cx a;have h2:=cx c;have:(4294967296:Int) ^ a*1<=4294967296 ^ a*4294967296 ^ c:=Int.mul_le_mul_of_nonneg_left aw aw;omega
theorem vV:∀{a b:List Int},Dig a->Dig b->Tr a->Tr b->val a=val b->a=b
 | [],[],_,_,_,_,_=>rfl
 | [],d::l,_,hb,_,tb,h=>by
  have h1:=o7 hb tb au;have h2:=cx ((d::l).length-1);rw[<-h]at h1;simp only[val]at h1;omega
 | d::l,[],ha,_,ta,_,h=>by
  have h1:=o7 ha ta au;have h2:=cx ((d::l).length-1);rw[h]at h1;simp only[val]at h1;omega
 | d::l,e::m,ha,hb,ta,tb,h=>by
  have ha':=Dig.cons.1 ha;have hb':=Dig.cons.1 hb;simp only[val]at h;have h1:d=e:=aw;have h2:val l=val m:=aw;rw[h1,vV ha'.2 hb'.2 ta.tail tb.tail h2]
def limbs (n:Nat):List Int:=if h:n=0 then[]else((n % 4294967296:Nat):Int)::limbs (n/4294967296)
termination_by n
decreasing_by exact Nat.div_lt_self (Nat.pos_of_ne_zero h) aH
theorem lB (n:Nat):val (limbs n)=n:=by
 induction n using Nat.strongRecOn with
 | _ n ih =>
  unfold limbs;split
  ·rename_i h;simp[val,h]
  ·rename_i h;have:=ih (n/4294967296) (Nat.div_lt_self (Nat.pos_of_ne_zero h) aH);simp only[val,this];omega
theorem oo (n:Nat):Dig (limbs n):=by
 induction n using Nat.strongRecOn with
 | _ n ih =>
  unfold limbs;split
  ·exact Dig.nil
  ·rename_i h;exact Dig.cons.2 ⟨aw,ih _ (Nat.div_lt_self (Nat.pos_of_ne_zero h) aH)⟩
theorem qd {n:Nat} (h:limbs n=[]):n=0:=by
 have:=lB n;rw[h]at this;simp[val]at this;omega
theorem uy (n:Nat):Tr (limbs n):=by
 induction n using Nat.strongRecOn with
 | _ n ih =>
  unfold limbs;split
  ·rfl
  ·rename_i h;have:=ih (n/4294967296) (Nat.div_lt_self (Nat.pos_of_ne_zero h) aH);unfold Tr trim;rw[this,if_neg];rintro ⟨h1,h2⟩;have:=qd h1;omega
theorem IW {l:List Int} (h:Dig l):trim l=limbs (val l).toNat:=by
 refine vV (zd h) (oo _) (vU l) (uy _) ?_;rw[tK,lB,Int.toNat_of_nonneg (bm h)]
theorem Gk {n k:Nat} (h:n<4294967296 ^ k):(limbs n).length<=k:=by
 rcases Nat.lt_or_ge k (limbs n).length with h1|h1
 ·have hne:limbs n≠[]:=by intro e;rw[e]at h1;simp at h1
  have h2:=o7 (oo n) (uy n) hne;rw[lB]at h2;have h3:(4294967296:Int) ^ k<=4294967296 ^ ((limbs n).length-1):=mg aw;have h4:((4294967296 ^ k:Nat):Int)=(4294967296:Int) ^ k:=au;omega
 ·exact h1
theorem IX (n:Nat):n<4294967296 ^ (limbs n).length:=by
 have:=eA (oo n);rw[lB]at this;have h4:((4294967296 ^ (limbs n).length:Nat):Int)=(4294967296:Int) ^ (limbs n).length:=au;omega
theorem qf (x:Int):Fn Tryz.prog 206 [.c (.v (.int .i64 x))] [.c (.v (.bool false))]:=by
 refine aJ (fn:=Tryz.f206) ?_;simp -dsimp only[go_sem]
theorem qe (x:Int):Fn Tryz.prog 245 [.c (.v (.int .u32 x))] [.c (.v (.bool false))]:=by
 refine aJ (fn:=Tryz.f245) ?_;simp -dsimp only[go_sem]
theorem ja {a b:Int} (h:a=b):aI a=aI b:=by rw[h]
def fv (x y:Int):Int:=if x<y then -1 else if y<x then 1 else 0
theorem fM (x y:Int):Fn Tryz.prog 183 [.c (.v (.int .i64 x)),.c (.v (.int .i64 y))] [.c (.v (.int .i64 (fv x y)))]:=by
 refine aJ (fn:=Tryz.f183) ?_;simp -dsimp only[go_sem];refine aK (qf x) ?_;simp -dsimp only[go_sem];refine aK (qf y) ?_;simp -dsimp only[go_sem];refine bi (fun h=>?_) (fun h=>?_)<;>simp -dsimp only[go_sem]
 ·simp[fv,h]
 ·refine bi (fun h=>?_) (fun h=>?_)<;>simp -dsimp only[go_sem]<;>simp[fv, *]
theorem vC (x y:Int):Fn Tryz.prog 225 [.c (.v (.int .u32 x)),.c (.v (.int .u32 y))] [.c (.v (.int .i64 (fv x y)))]:=by
 refine aJ (fn:=Tryz.f225) ?_;simp -dsimp only[go_sem];refine aK (qe x) ?_;simp -dsimp only[go_sem];refine aK (qe y) ?_;simp -dsimp only[go_sem];refine bi (fun h=>?_) (fun h=>?_)<;>simp -dsimp only[go_sem]
 ·simp[fv,h]
 ·refine bi (fun h=>?_) (fun h=>?_)<;>simp -dsimp only[go_sem]<;>simp[fv, *]
theorem dG {x y:Int}:fv x y=0↔x=y:=by unfold fv;split<;>(try split)<;>omega
theorem th {a b:List Int} (ha:Dig a) (hb:Dig b) (tb:Tr b) (h:a.length<b.length):val a<val b:=by
 have h1:=eA ha;have h2:=o7 hb tb (by intro e;simp[e]at h);have h3:=mg (a:=a.length) (b:=b.length-1) aw;omega
theorem yf {a b:List Int} (ha:Dig a) (hb:Dig b) {i:Nat} (hi:i<a.length) (hi':i<b.length) (hd:a.drop (i+1)=b.drop (i+1)) (h:a[i]<b[i]):val a<val b:=by
 rw[fO hi,fO hi',hd];have h1:=eA (ha.take i);have h2:=bm (hb.take i);simp only[List.length_take,Nat.min_eq_left (Nat.le_of_lt hi)]at h1;have h3:=cx i;have h4:(4294967296:Int) ^ i*(a[i]+4294967296*val (b.drop (i+1))+1)<=4294967296 ^ i*(b[i]+4294967296*val (b.drop (i+1))):=Int.mul_le_mul_of_nonneg_left aw aw;rw[Int.mul_add _ _ 1,Int.mul_one]at h4;omega
theorem CY (a b:List Int) (ha:Dig a) (hb:Dig b) (ta:Tr a) (tb:Tr b) (hl:a.length<4611686018427387904):Fn Tryz.prog 211 [.c (.lst (a.map bG)),.c (.lst (b.map bG))] [.c (.v (.int .i64 (fv (val a) (val b))))]:=by
 refine aJ (fn:=Tryz.f211) ?_;simp -dsimp only[go_sem];refine aK (fM _ _) ?_;simp -dsimp only[go_sem];refine bi (fun h=>?_) (fun h=>?_)<;>simp -dsimp only[go_sem]
 ·have hlen:a.length=b.length:=by simp[dG]at h;omega
  refine⟨aw,?_⟩;refine jX (fun n τ β _=>n<=a.length/\a.drop n=b.drop n/\τ 0=aL a/\τ 1=aL b/\τ 6=aI ((n:Int)-1))
   (fun e τ β _=>(e = .exit 0/\a=b)\/(e = .ret/\τ 4=aI (fv (val a) (val b)))) a.length ?_ ?_ ?_
  ·simp -dsimp only[go_sem];simp[hlen]
  ·rintro n τ β ε π ⟨h1,h2,h3,h4,h5⟩;simp -dsimp only[go_sem,h3,h4,h5];refine bi (fun h=>?_) (fun h=>?_)<;>simp -dsimp only[go_sem,h3,h4,h5]
   ·have hn:((n:Int)-1).toNat=n-1:=aw;refine ap 10 [] false true ?_;simp -dsimp only[go_sem,h3,h4,h5];refine⟨aw,aV aw ?_⟩;simp -dsimp only[go_sem,h3,h4,h5];refine⟨aw,aV aw ?_⟩;simp -dsimp only[go_sem,h3,h4,h5];refine aK (vC _ _) ?_;simp -dsimp only[go_sem,h3,h4,h5];simp only[hn];have d1:a.drop (n-1)=a[n-1]::a.drop n:=by rw[List.drop_eq_getElem_cons aw];congr 2;omega
    have d2:b.drop (n-1)=b[n-1]::b.drop n:=by rw[List.drop_eq_getElem_cons aw];congr 2;omega
    refine bi (fun hz=>?_) (fun hz=>?_)<;>simp -dsimp only[go_sem,h3,h4,h5]
    ·refine⟨aw,again (n-1) aw ⟨aw,?_,?_⟩⟩
     ·rw[d1,d2,h2,dG.1 hz]
     ·simp -dsimp only[go_sem,h3,h4];exact ja aw
    ·have e1:n-1+1=n:=aw;refine ja ?_;rcases Int.lt_trichotomy a[n-1] b[n-1]with h6|h6|h6
     ·have:=yf ha hb (i:=n-1) aw aw (by rw[e1];exact h2) h6;simp[fv,h6,this]
     ·exact absurd (dG.2 h6) hz
     ·have:=yf hb ha (i:=n-1) aw aw (by rw[e1];exact h2.symm) h6;simp[fv,h6,this,Int.not_lt.2 (Int.le_of_lt this),Int.not_lt.2 (Int.le_of_lt h6)]
   ·have:n=0:=aw;subst this;simpa using h2
  ·rintro e τ β ε π (⟨rfl,rfl⟩|⟨rfl,h⟩)
   ·simp -dsimp only[go_sem];simp[fv]
   ·simp -dsimp only[go_sem,h]
 ·rcases Nat.lt_trichotomy a.length b.length with h1|h1|h1
  ·have:=th ha hb tb h1;simp[fv,this,h1]
  ·simp[fv,h1]at h
  ·have:=th hb ha ta h1;simp[fv,this,h1,Int.not_lt.2 (Int.le_of_lt this),Nat.not_lt.2 (Nat.le_of_lt h1)]
end Go.AM
