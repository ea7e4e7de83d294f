/- Lemmas, part 7 of 24: The rules by which a walk computes; Loops, of which it is kept in mind what they leave as it was; Integers: signs, limbs; Integers: what lists of limbs are worth; comparing; Integers: comparing, small numbers. No condition. -/
import Derived.Test.YtcmfkhicjhliaaaGreatPZ205
set_option maxRecDepth 65536
set_option linter.unusedSimpArgs false
set_option linter.unusedVariables false
set_option linter.unusedSectionVars false
namespace Go.AM
open Go.Proofs
theorem bB {α:Type} (f:Nat->α) (d:Nat) (v:α) (n:Nat):upd f d v n=if n=d then v else f n:=by
 unfold upd;by_cases h:n=d
 ·subst h;simp
 ·have:Nat.beq n d=false:=by
   cases hb:Nat.beq n d with
   | false=>rfl
   | true=>exact absurd (Nat.eq_of_beq_eq_true hb) h
  simp[h,this]
theorem DD {α:Type} (x:α) (K:α->Prop):aP (some x) K=K x:=rfl
theorem FR (k:IntKind) (i:Int) (K:Nat->Prop):lU (.i (.c (.v (.int k i)))) K=(0<=i/\K i.toNat):=rfl
theorem xz (k:IntKind) (i:Nat) (K:Nat->Prop):lU (.i (.c (.v (.int k (i:Int))))) K=K i:=by
 simp[lU]
theorem DQ (st:St) (n:Nat) (K:Nat->Prop):st.wEnd none n K=K n:=rfl
theorem DP (st:St) (x:Operand) (n:Nat) (K:Nat->Prop):st.wEnd (some x) n K=lU (st.ev x) K:=rfl
theorem NF (st:St) (n:Tmp):st.ev (.tmp n)=st.t n:=rfl
theorem HX (st:St) (v:Value):st.ev (.const v)=lg v:=rfl
theorem KC (st:St) (f:FuncId):st.ev (.func f) = .i (.c (.v (.func (.func f) #[] #[]))):=rfl
theorem BD (k:IntKind) (n:Int):lg (.int k n) = .i (.c (.v (.int k n))):=rfl
theorem y5 (b:Bool):lg (.bool b) = .i (.c (.v (.bool b))):=rfl
theorem BC:lg (.slice none 0 0) = .fl []:=rfl
section
variable (t:Nat->AV) (b:Nat->BX) (e:Nat->EN) (p:Nat->MP)
theorem GH (d:Tmp) (v:AV):St.put ⟨t,b,e,p⟩ (some d) v=⟨upd t d v,b,e,p⟩:=rfl
theorem KX (d:Tmp) (v:AV) (cs:List C):St.app ⟨t,b,e,p⟩ (some d) { v:=v,nb:=some cs }=⟨upd t d v,upd b d ⟨(b d).gen+1,cs⟩,e,p⟩:=rfl
theorem KW (d:Tmp) (v:AV) (n:EN):St.app ⟨t,b,e,p⟩ (some d) { v:=v,ne:=some n }=⟨upd t d v,b,upd e d n,p⟩:=rfl
theorem Im (d k:Tmp) (v:AV) (n:EN):St.app ⟨t,b,e,p⟩ (some d) { v:=v,ne:=some n,kill:=some k } =
  ⟨upd t d v,b,upd (upd e k ⟨(e k).gen+1,0,[],false,false⟩) d n,p⟩:=rfl
theorem oJ (d:Nat) (v:AV):St.setT ⟨t,b,e,p⟩ d v=⟨upd t d v,b,e,p⟩:=rfl
theorem JB (d:Nat) (v:BX):St.setB ⟨t,b,e,p⟩ d v=⟨t,upd b d v,e,p⟩:=rfl
theorem JA (d:Nat) (v:EN):St.setE ⟨t,b,e,p⟩ d v=⟨t,b,upd e d v,p⟩:=rfl
theorem E4 (k:Nat):St.freeze ⟨t,b,e,p⟩ k=⟨t,b,upd e k { e k with m:=false,app:=false },p⟩:=rfl
theorem t_mk:St.t ⟨t,b,e,p⟩=t:=rfl
theorem b_mk:St.b ⟨t,b,e,p⟩=b:=rfl
theorem e_mk:St.e ⟨t,b,e,p⟩=e:=rfl
end
def tc (args:List IV) (n:Nat):AV:=match args[n]? with|some x => .i x|none => .any
def lF (_:Nat):BX:=⟨0,[]⟩
def nI (_:Nat):EN:=⟨0,0,[],false,false⟩
def mz (_:Nat):MP:={ gen:=0,kv:=[] }
theorem Kn (args:List IV):gH args=⟨tc args,lF,nI,mz⟩:=rfl
theorem Ba (x:IV) (l:List IV):tc (x::l) 0 = .i x:=rfl
theorem Bb (x:IV) (l:List IV) (n:Nat):tc (x::l) (n+1)=tc l n:=rfl
theorem EX (n:Nat):tc [] n = .any:=rfl
theorem Kq (n:Nat):(lF n).gen=0:=rfl
theorem Ko (n:Nat):(nI n).gen=0:=rfl
theorem pv_v (x:Value):AV.pv (.i (.c (.v x)))=some x:=rfl
theorem pv_g (cs:List C):AV.pv (.i (.g cs))=(uN cs).map fun l => .agg l.toArray:=rfl
theorem MR (st:St) (x:IV):st.toIV (.i x)=some x:=rfl
theorem Jx (st:St) (rs:List (List C)):st.toIV (.fl rs)=some (.c (.lst rs)):=rfl
theorem Jw (st:St) (t g len:Nat) (h1:(st.e t).gen=g) (h2:0<g) (h3:(st.e t).m=false):st.toIV (.sl t g len)=some (.c (.lst ((st.e t).rs.take len))):=by
 have hb:Nat.blt 0 g=true:=by simpa using h2
 simp[St.toIV,h1,h3,hb]
theorem Gv (st:St) (rs:List (List C)):st.rows (.i (.c (.lst rs)))=some rs:=rfl
theorem JG (st:St) (rs:List (List C)):st.rows (.fl rs)=some rs:=rfl
theorem JF (st:St) (t g len:Nat) (h1:(st.e t).gen=g) (h2:0<g):st.rows (.sl t g len)=some ((st.e t).rs.take len):=by
 have hb:Nat.blt 0 g=true:=by simpa using h2
 simp[St.rows,h1,hb]
theorem Kb (st:St) (rs:List (List C)):st.len (.i (.c (.lst rs)))=some rs.length:=rfl
theorem Np (st:St) (rs:List (List C)):st.len (.fl rs)=some rs.length:=rfl
theorem No (st:St) (t g len:Nat) (h1:(st.e t).gen=g) (h2:0<g):st.len (.sl t g len)=some len:=by
 have hb:Nat.blt 0 g=true:=by simpa using h2
 simp[St.len,h1,hb]
theorem Pg (st:St) (x:IV):st.fin (.i x)=some x:=rfl
theorem NE (st:St) (rs:List (List C)):st.fin (.fl rs)=some (.c (.lst rs)):=rfl
theorem ND (st:St) (t g len:Nat) (h1:(st.e t).gen=g) (h2:0<g):st.fin (.sl t g len)=some (.c (.lst ((st.e t).rs.take len))):=by
 have hb:Nat.blt 0 g=true:=by simpa using h2
 simp[St.fin,h1,hb]
theorem Gz (P:Program) (st:St) (t:Tmp):st.res1 P (.tmp t)=st.fin (st.t t):=rfl
theorem AX (v:AV):fi none v=True:=by cases v<;>simp[fi,okE]
theorem JR (D:Option DI) (x:IV):fi D (.i x)=True:=rfl
theorem G4 (D:Option DI) (x:List (List C)):fi D (.fl x)=True:=rfl
theorem G5 (D:Option DI) (y:Operand) (x:IV):p8 D y (.i x)=True:=rfl
theorem EH (D:Option DI) (y:Operand) (t g off:Nat):p8 D y (.sl t g off)=(okE D t\/okF D/\y = .tmp t):=rfl
theorem GS:okF none=True:=rfl
theorem GR (al:List Nat) (b fr:Bool) (nk:Option (List Nat)):okF (some ⟨al,b,fr,nk⟩)=(fr=true):=rfl
theorem MT (a b:Nat):(Operand.tmp a=Operand.tmp b)=(a=b):=by simp
theorem yh (t g o:Nat):p7 none (.bp t g o)=True:=rfl
theorem EF (t g o t' g' o':Nat):p7 (some (.bp t' g' o')) (.bp t g o)=(t≠t'):=rfl
theorem G3 (D:Option DI) (t g off:Nat):fi D (.sl t g off)=okE D t:=rfl
theorem GX (t:Nat):okB none t=True:=rfl
theorem GU (t:Nat):okE none t=True:=rfl
theorem GW (al:List Nat) (b fr:Bool) (nk:Option (List Nat)) (t:Nat):okB (some ⟨al,b,fr,nk⟩) t=(al.contains t=false):=rfl
theorem GT (al:List Nat) (b fr:Bool) (t:Nat):okE (some ⟨al,b,fr,none⟩) t=(b=false):=by simp[okE]
theorem GV (al:List Nat) (b fr:Bool) (ks:List Nat) (t:Nat):okE (some ⟨al,b,fr,some ks⟩) t=(b=false\/ks.contains t=false):=by simp[okE]
theorem yj (v:AV):mq none v=True:=by cases v<;>simp[mq]
theorem EJ (D:Option DI) (rs:List (List C)):mq D (.fl rs)=True:=rfl
theorem EI (al:List Nat) (b fr:Bool) (v:AV):mq (some ⟨al,b,fr,none⟩) v=True:=by cases v<;>simp[mq]
attribute [go_sem] GV yj EJ EI
theorem Ke (n by':Nat) (z:Option (List C)) (e:Option TypeId) (a:Option (Nat×TypeId)) (f:List (Nat×TypeId)) (cs:List C) (h:n<=cs.length):ldv ⟨true,n,by',z,e,a,f⟩ cs=some (.g (cs.take n)):=by simp[ldv,h]
theorem Kd (n by':Nat) (z:Option (List C)) (e:Option TypeId) (a:Option (Nat×TypeId)) (f:List (Nat×TypeId)) (c:C) (cs:List C):ldv ⟨false,n,by',z,e,a,f⟩ (c::cs)=some (.c c):=by simp[ldv]
theorem iG (K:St->Prop) (Q:aK->St->Prop) (s:St):iq K Q .normal s=K s:=rfl
theorem Au (K:St->Prop) (Q:aK->St->Prop) (id:Nat) (s:St):iq K Q (.exit id) s=Q (.exit id) s:=rfl
theorem Ee (K:St->Prop) (Q:aK->St->Prop) (s:St):iq K Q .ret s=Q .ret s:=rfl
theorem gU (n:Nat) (Q:aK->St->Prop) (s:St):lm n Q .normal s=Q .normal s:=rfl
theorem zb (n:Nat) (Q:aK->St->Prop) (id:Nat) (s:St):lm n Q (.exit id) s=if id=n then Q .normal s else Q (.exit id) s:=rfl
theorem BL (n:Nat) (Q:aK->St->Prop) (s:St):lm n Q .ret s=Q .ret s:=rfl
theorem Hg {α β:Type} (f:α->Option β):dI f []=some []:=rfl
theorem EO {α β:Type} (f:α->Option β) (x:α) (xs:List α):dI f (x::xs)=(f x).bind fun y=>(dI f xs).bind fun ys=>some (y::ys):=by
 cases h:f x<;>cases h':dI f xs<;>simp[dI,h,h']
theorem Ho (n:Nat):lens n []=True:=by simp[lens]
theorem ET (n:Nat) (r:List C) (rs:List (List C)):lens n (r::rs)=(r.length=n/\lens n rs):=by simp[lens]
theorem FO (n:Int) (K:Value->Prop):nS .i64 n K=((-9223372036854775808<=n/\n<9223372036854775808)/\K (.int .i64 n)):=rfl
theorem FM (n:Int) (K:Value->Prop):nS .u64 n K=K (.int .u64 (IntKind.wrap .u64 n)):=rfl
theorem FN (n:Int) (K:Value->Prop):nS .u32 n K=K (.int .u32 (IntKind.wrap .u32 n)):=rfl
theorem lO (n:Int):IntKind.wrap .u64 n=n % 18446744073709551616:=by simp[IntKind.wrap,IntKind.bits,IntKind.signed]
theorem lS (n:Int):IntKind.wrap .u32 n=n % 4294967296:=by simp[IntKind.wrap,IntKind.bits,IntKind.signed]
theorem Jl (n:Int):IntKind.wrap .u8 n=n % 256:=by simp[IntKind.wrap,IntKind.bits,IntKind.signed]
theorem oB (n:Int) (h1 : -9223372036854775808<=n) (h2:n<9223372036854775808):IntKind.wrap .i64 n=n:=by
 simp only[IntKind.wrap,IntKind.bits,IntKind.signed,Bool.true_and,Nat.reduceSub,Int.reducePow];split<;>rename_i h4<;>simp only[decide_eq_true_eq,ge_iff_le]at h4<;>omega
theorem Ab {α:Type} {o o':Option α} (K:α->Prop) (h:o=o'):aP o K=aP o' K:=by rw[h]
theorem Ac {v v':AV} (K:Nat->Prop) (h:v=v'):lU v K=lU v' K:=by rw[h]
theorem xF {v v':AV} (K:Bool->Prop) (h:v=v'):oE v K=oE v' K:=by rw[h]
theorem DL {v v' u u':AV} (K:IntKind->Int->Int->Prop) (h:v=v') (h':u=u'):wI2 v u K=wI2 v' u' K:=by rw[h,h']
theorem z7 {v v':AV} (K:List IV->Prop) (h:v=v'):z8 v K=z8 v' K:=by rw[h]
theorem Ao {v v':AV} (K:List C->Prop) (h:v=v'):Ap v K=Ap v' K:=by rw[h]
theorem vQ (st:St) (D:Option DI) {v v':AV} (K:List C->Prop) (h:v=v'):st.wCells D v K=st.wCells D v' K:=by rw[h]
theorem Ad {rs rs':List (List C)} {i i':Nat} (K:List C->Prop) (h:rs=rs') (h':i=i'):nT rs i K=nT rs' i' K:=by rw[h,h']
theorem An (st:St) (d:Nat) (te:TI) {xs xs':List (List C)} {x x' y y':AV} (K:St->Prop) (h:xs=xs') (h1:y=y') (h2:x=x'):st.wApp d te xs y x K=st.wApp d te xs' y' x' K:=by rw[h,h1,h2]
theorem xx {k k':CK} (A B:Prop) (h:k=k'):uQ k A B=uQ k' A B:=by rw[h]
theorem DO (st:St) (D:Option DI) {n n':Nat} {v v':AV} (K:AV->Prop) (h:n=n') (h':v=v'):st.wFA D n v K=st.wFA D n' v' K:=by rw[h,h']
theorem DK (P:Program) (st:St) (D:Option DI) {ti ti':TI} {i i':Nat} {v v':AV} (K:AV->Prop) (h:ti=ti') (h1:i=i') (h2:v=v'):St.wIA P st D ti i v K=St.wIA P st D ti' i' v' K:=by rw[h,h1,h2]
theorem vN (te:TI) {l l' h h':Nat} {v v':AV} (K:AV->Prop) (e:l=l') (e1:h=h') (e2:v=v'):nR te l h v K=nR te l' h' v' K:=by rw[e,e1,e2]
theorem uD (te:TI) {l l' h h':Nat} {v v':AV} (K:AV->Prop) (e:l=l') (e1:h=h') (e2:v=v'):mZ te l h v K=mZ te l' h' v' K:=by rw[e,e1,e2]
theorem vM (st:St) {n n':Nat} {cs cs':List C} {v v':AV} (K:St->Prop) (h:n=n') (h1:cs=cs') (h2:v=v'):st.wStore n cs v K=st.wStore n' cs' v' K:=by rw[h,h1,h2]
theorem vP {v v':AV} (w:Bool) (A B C:Prop) (h:v=v'):jf v w A B C=jf v' w A B C:=by rw[h]
theorem La (P:Program) (kind:FuncId->CK) (D:Option DI) (dst:Option Tmp) (K:St->Prop) {st st':St} (op:Op) (h:st=st'):W P kind D dst K st op=W P kind D dst K st' op:=by rw[h]
theorem DM (r:List C) (rs:List (List C)) (K:List C->Prop):nT (r::rs) 0 K=K r:=by simp[nT]
theorem DN (r:List C) (rs:List (List C)) (n:Nat) (K:List C->Prop):nT (r::rs) (n+1) K=nT rs n K:=by simp[nT]
def wEl {α:Type} (l:List α) (i:Nat) (K:α->Prop) (_:Tg K):Prop:=∃ a,l[i]?=some a/\K a
theorem FT {α:Type} (l:List α) (f:α->List C) (i:Nat) (K:List C->Prop):nT (l.map f) i K=wEl l i (fun a=>K (f a)) ⟨⟩:=by
 simp only[nT,wEl,List.getElem?_map];cases l[i]?<;>simp
theorem ay {α:Type} {l:List α} {i:Nat} {K:α->Prop} (h:i<l.length) (hK:K l[i]):wEl l i K ⟨⟩:=⟨l[i],by simp[h],hK⟩
theorem av {α:Type} {l:List α} {i:Nat} {K:α->Prop} {a:α} (h:l[i]?=some a) (hK:K a):wEl l i K ⟨⟩:=⟨a,h,hK⟩
theorem N7 (P:Program) (kind:FuncId->CK) (D:Option DI) (dst:Option Tmp) (K:St->Prop) (τ:Nat->AV) (β:Nat->BX) (ε:Nat->EN) (π:Nat->MP) (x:Operand):W P kind D dst K ⟨τ,β,ε,π⟩ (.move x) =
  (K ((St.mk τ β ε π).put dst ((St.mk τ β ε π).ev x))):=rfl
theorem Iv (P:Program) (kind:FuncId->CK) (D:Option DI) (dst:Option Tmp) (K:St->Prop) (τ:Nat->AV) (β:Nat->BX) (ε:Nat->EN) (π:Nat->MP) (x:Operand):W P kind D dst K ⟨τ,β,ε,π⟩ (.assign x) =
  (K ((St.mk τ β ε π).put dst ((St.mk τ β ε π).ev x))):=rfl
theorem N5 (P:Program) (kind:FuncId->CK) (D:Option DI) (dst:Option Tmp) (K:St->Prop) (τ:Nat->AV) (β:Nat->BX) (ε:Nat->EN) (π:Nat->MP) (c x y:Operand):W P kind D dst K ⟨τ,β,ε,π⟩ (.pick c x y) =
  (oE ((St.mk τ β ε π).ev c) fun t=>wIf t (K ((St.mk τ β ε π).put dst ((St.mk τ β ε π).ev x))) (K ((St.mk τ β ε π).put dst ((St.mk τ β ε π).ev y))) ⟨⟩):=rfl
theorem Ld (P:Program) (kind:FuncId->CK) (D:Option DI) (dst:Option Tmp) (K:St->Prop) (τ:Nat->AV) (β:Nat->BX) (ε:Nat->EN) (π:Nat->MP) (T:TypeId):W P kind D dst K ⟨τ,β,ε,π⟩ (.alloc T) =
  (aP dst fun d=>aP (tinfo P T) fun ti=>aP ti.zero fun cs=>K ((St.mk τ β ε π).app (some d) { v := .bp d (((St.mk τ β ε π).b d).gen+1) 0,nb:=some cs })):=rfl
theorem PI (P:Program) (kind:FuncId->CK) (D:Option DI) (dst:Option Tmp) (K:St->Prop) (τ:Nat->AV) (β:Nat->BX) (ε:Nat->EN) (π:Nat->MP) (T:TypeId) (x:Operand):W P kind D dst K ⟨τ,β,ε,π⟩ (.box T x) =
  (aP dst fun d=>fi D ((St.mk τ β ε π).ev x)/\aP ((St.mk τ β ε π).toIV ((St.mk τ β ε π).ev x)) fun y=>K ((St.mk τ β ε π).app (some d) { v := .bp d (((St.mk τ β ε π).b d).gen+1) 0,nb:=some y.cells })):=rfl
theorem Lb (P:Program) (kind:FuncId->CK) (D:Option DI) (dst:Option Tmp) (K:St->Prop) (τ:Nat->AV) (β:Nat->BX) (ε:Nat->EN) (π:Nat->MP) (T:TypeId) (ps:Array (Nat×Operand)):W P kind D dst K ⟨τ,β,ε,π⟩ (.build T ps) =
  (aP (tinfo P T) fun ti=>aP ti.zero fun z=>ti.agg=true/\Ga P ti.arr ps.toList /\
   aP (dI (fun f=>(tinfo P f.2).map fun t=>(f.1,t.size)) ti.flds) fun pl=>(∀ p∈ps.toList,fi D ((St.mk τ β ε π).ev p.2))/\aP ((St.mk τ β ε π).partCells ps.toList) fun l =>
   aP (lG pl z l) fun cs=>K ((St.mk τ β ε π).put dst (.i (.g cs)))):=rfl
theorem w7 (P:Program) (kind:FuncId->CK) (D:Option DI) (dst:Option Tmp) (K:St->Prop) (τ:Nat->AV) (β:Nat->BX) (ε:Nat->EN) (π:Nat->MP) (T:TypeId) (n:Nat) (ps:Array (Nat×Operand)):W P kind D dst K ⟨τ,β,ε,π⟩ (.buildSlice T n ps) =
  (aP (eB P T) fun ti=>aP ti.zero fun z=>z.length=ti.size/\0<ti.size/\n*ti.size<=16777216/\(∀ p∈ps.toList,fi D ((St.mk τ β ε π).ev p.2))/\aP ((St.mk τ β ε π).partCells ps.toList) fun l =>
   (∀ p∈l,p.1<n/\p.2.length=ti.size)/\K ((St.mk τ β ε π).put dst (.fl (l.foldl (fun rs p=>rs.set p.1 p.2) (List.replicate n z))))):=rfl
theorem N8 (P:Program) (kind:FuncId->CK) (D:Option DI) (dst:Option Tmp) (K:St->Prop) (τ:Nat->AV) (β:Nat->BX) (ε:Nat->EN) (π:Nat->MP) (T:TypeId) (x:Operand):W P kind D dst K ⟨τ,β,ε,π⟩ (.load T x) =
  (aP (tinfo P T) fun ti=>(St.mk τ β ε π).wCells D ((St.mk τ β ε π).ev x) fun cs=>aP (ldv ti cs) fun iv=>K ((St.mk τ β ε π).put dst (.i iv))):=rfl
theorem Lc (P:Program) (kind:FuncId->CK) (D:Option DI) (dst:Option Tmp) (K:St->Prop) (τ:Nat->AV) (β:Nat->BX) (ε:Nat->EN) (π:Nat->MP) (op:BinOp) (T:TypeId) (x y:Operand) (U:TypeId):W P kind D dst K ⟨τ,β,ε,π⟩ (.binOp op T x y U) =
  (aP ((St.mk τ β ε π).ev x).pv fun a=>aP ((St.mk τ β ε π).ev y).pv fun b=>d7 P op T x y a b fun z=>K ((St.mk τ β ε π).put dst (sc z))):=rfl
theorem N4 (P:Program) (kind:FuncId->CK) (D:Option DI) (dst:Option Tmp) (K:St->Prop) (τ:Nat->AV) (β:Nat->BX) (ε:Nat->EN) (π:Nat->MP) (op:UnOp) (T:TypeId) (x:Operand):W P kind D dst K ⟨τ,β,ε,π⟩ (.unOp op T x) =
  (aP ((St.mk τ β ε π).ev x).pv fun a=>wUn P op a fun z=>K ((St.mk τ β ε π).put dst (sc z))):=rfl
theorem Fo (P:Program) (kind:FuncId->CK) (D:Option DI) (dst:Option Tmp) (K:St->Prop) (τ:Nat->AV) (β:Nat->BX) (ε:Nat->EN) (π:Nat->MP) (s d:TypeId) (x:Operand):W P kind D dst K ⟨τ,β,ε,π⟩ (.convert s d x) =
  (aP ((St.mk τ β ε π).ev x).pv fun a=>Ce P s d a fun z=>K ((St.mk τ β ε π).put dst (sc z))):=rfl
theorem K7 (P:Program) (kind:FuncId->CK) (D:Option DI) (dst:Option Tmp) (K:St->Prop) (τ:Nat->AV) (β:Nat->BX) (ε:Nat->EN) (π:Nat->MP) (T:TypeId) (x y:Operand):W P kind D dst K ⟨τ,β,ε,π⟩ (.index T x y) =
  (aP ((St.mk τ β ε π).ev x).pv fun a=>aP ((St.mk τ β ε π).ev y).pv fun b=>∃ z,dz P (Instr.index T a b) z/\z.oneCell'=true/\K ((St.mk τ β ε π).put dst (sc z))):=rfl
theorem Fm (P:Program) (kind:FuncId->CK) (D:Option DI) (dst:Option Tmp) (K:St->Prop) (τ:Nat->AV) (β:Nat->BX) (ε:Nat->EN) (π:Nat->MP) (x:Operand) (n:Nat):W P kind D dst K ⟨τ,β,ε,π⟩ (.extract x n) =
  (z8 ((St.mk τ β ε π).ev x) fun xs=>aP xs[n]? fun y=>K ((St.mk τ β ε π).put dst (.i y))):=rfl
theorem K8 (P:Program) (kind:FuncId->CK) (D:Option DI) (dst:Option Tmp) (K:St->Prop) (τ:Nat->AV) (β:Nat->BX) (ε:Nat->EN) (π:Nat->MP) (T:TypeId) (x:Operand) (f:Nat):W P kind D dst K ⟨τ,β,ε,π⟩ (.field T x f) =
  (aP (tinfo P T) fun ti=>aP ti.flds[f]? fun fd=>aP (tinfo P fd.2) fun tf=>Ap ((St.mk τ β ε π).ev x) fun cs=>aP (ldv tf (cs.drop fd.1)) fun iv=>K ((St.mk τ β ε π).put dst (.i iv))):=rfl
theorem zn (P:Program) (kind:FuncId->CK) (D:Option DI) (dst:Option Tmp) (K:St->Prop) (τ:Nat->AV) (β:Nat->BX) (ε:Nat->EN) (π:Nat->MP) (T:TypeId) (x:Operand) (f:Nat):W P kind D dst K ⟨τ,β,ε,π⟩ (.fieldAddr T x f) =
  (aP (tinfo P T) fun ti=>aP ti.flds[f]? fun fd=>aP (tinfo P fd.2) fun tf=>tf.size≠0/\(St.mk τ β ε π).wFA D fd.1 ((St.mk τ β ε π).ev x) fun v=>K ((St.mk τ β ε π).put dst v)):=rfl
theorem zm (P:Program) (kind:FuncId->CK) (D:Option DI) (dst:Option Tmp) (K:St->Prop) (τ:Nat->AV) (β:Nat->BX) (ε:Nat->EN) (π:Nat->MP) (T:TypeId) (x y:Operand):W P kind D dst K ⟨τ,β,ε,π⟩ (.indexAddr T x y) =
  (aP (tinfo P T) fun ti=>lU ((St.mk τ β ε π).ev y) fun i=>St.wIA P (St.mk τ β ε π) D ti i ((St.mk τ β ε π).ev x) fun v=>K ((St.mk τ β ε π).put dst v)):=rfl
theorem K5 (P:Program) (kind:FuncId->CK) (D:Option DI) (dst:Option Tmp) (K:St->Prop) (τ:Nat->AV) (β:Nat->BX) (ε:Nat->EN) (π:Nat->MP) (T:TypeId) (x:Operand) (lo hi mx:Option Operand):W P kind D dst K ⟨τ,β,ε,π⟩ (.slice T x lo hi mx) =
  (aP (tinfo P T) fun ti=>aP ti.elem fun e=>aP (tinfo P e) fun te=>p8 D x ((St.mk τ β ε π).ev x)/\aP ((St.mk τ β ε π).len ((St.mk τ β ε π).ev x)) fun n =>
   (St.mk τ β ε π).wEnd lo 0 fun l=>(St.mk τ β ε π).wEnd hi n fun h=>(l<=h/\h<=n)/\FJ mx (nR te l h ((St.mk τ β ε π).ev x) fun v=>K ((St.mk τ β ε π).put dst v))
    fun y=>hi≠none/\lU ((St.mk τ β ε π).ev y) fun m=>m=h/\mZ te l h ((St.mk τ β ε π).ev x) fun v=>K ((St.mk τ β ε π).put dst v)):=rfl
theorem zk (P:Program) (kind:FuncId->CK) (D:Option DI) (dst:Option Tmp) (K:St->Prop) (τ:Nat->AV) (β:Nat->BX) (ε:Nat->EN) (π:Nat->MP) (T:TypeId) (x y:Operand):W P kind D dst K ⟨τ,β,ε,π⟩ (.makeSlice T x y) =
  (aP dst fun d=>aP (eB P T) fun te=>aP (te.zero.map mkZ) fun z=>z.length=te.size/\lU ((St.mk τ β ε π).ev x) fun n=>lU ((St.mk τ β ε π).ev y) fun m=>(n<=m/\m*te.bytes<=140737488355328/\m<4611686018427387904) /\
   K ((St.mk τ β ε π).app (some d) { v := .sl d (((St.mk τ β ε π).e d).gen+1) n,ne:=some ⟨((St.mk τ β ε π).e d).gen+1,te.size,List.replicate n z,true,true⟩ })):=rfl
theorem K4 (P:Program) (kind:FuncId->CK) (D:Option DI) (dst:Option Tmp) (K:St->Prop) (τ:Nat->AV) (β:Nat->BX) (ε:Nat->EN) (π:Nat->MP) (T:TypeId) (x y:Operand):W P kind D dst K ⟨τ,β,ε,π⟩ (.store T x y) =
  (D=none/\dst=none/\aP (tinfo P T) fun ti=>aP ((St.mk τ β ε π).toIV ((St.mk τ β ε π).ev y)) fun v=>v.cells.length=ti.size/\(St.mk τ β ε π).wStore ti.size v.cells ((St.mk τ β ε π).ev x) K):=rfl
theorem N9 (P:Program) (kind:FuncId->CK) (D:Option DI) (dst:Option Tmp) (K:St->Prop) (τ:Nat->AV) (β:Nat->BX) (ε:Nat->EN) (π:Nat->MP) (c:Call):W P kind D dst K ⟨τ,β,ε,π⟩ (.call c) =
  (lW P kind D dst K (St.mk τ β ε π) c):=rfl
theorem DX (P:Program) (kind:FuncId->CK) (D:Option DI) (dst:Option Tmp) (K:St->Prop) (τ:Nat->AV) (β:Nat->BX) (ε:Nat->EN) (π:Nat->MP) (as':Array Operand) (ts:Array TypeId):lW P kind D dst K ⟨τ,β,ε,π⟩ ⟨.builtin .len,as',ts⟩ =
  jH as'.toList (fun x=>fi D ((St.mk τ β ε π).ev x)/\((ts[0]?).bind (tinfo P)).bind (·.elem)≠none/\aP ((St.mk τ β ε π).len ((St.mk τ β ε π).ev x)) fun n=>K ((St.mk τ β ε π).put dst (sc (.int .i64 n)))) fun _ _=>False:=rfl
theorem DW (P:Program) (kind:FuncId->CK) (D:Option DI) (dst:Option Tmp) (K:St->Prop) (τ:Nat->AV) (β:Nat->BX) (ε:Nat->EN) (π:Nat->MP) (as':Array Operand) (ts:Array TypeId):lW P kind D dst K ⟨τ,β,ε,π⟩ ⟨.builtin .max,as',ts⟩ =
  jH as'.toList (fun _=>False) fun x y=>wI2 ((St.mk τ β ε π).ev x) ((St.mk τ β ε π).ev y) fun k a b=>K ((St.mk τ β ε π).put dst (sc (.int k (max a b)))):=rfl
theorem DV (P:Program) (kind:FuncId->CK) (D:Option DI) (dst:Option Tmp) (K:St->Prop) (τ:Nat->AV) (β:Nat->BX) (ε:Nat->EN) (π:Nat->MP) (as':Array Operand) (ts:Array TypeId):lW P kind D dst K ⟨τ,β,ε,π⟩ ⟨.builtin .min,as',ts⟩ =
  jH as'.toList (fun _=>False) fun x y=>wI2 ((St.mk τ β ε π).ev x) ((St.mk τ β ε π).ev y) fun k a b=>K ((St.mk τ β ε π).put dst (sc (.int k (min a b)))):=rfl
theorem vR (P:Program) (kind:FuncId->CK) (D:Option DI) (dst:Option Tmp) (K:St->Prop) (τ:Nat->AV) (β:Nat->BX) (ε:Nat->EN) (π:Nat->MP) (as':Array Operand) (ts:Array TypeId):lW P kind D dst K ⟨τ,β,ε,π⟩ ⟨.builtin .append,as',ts⟩ =
  aP dst fun d=>jH as'.toList (fun _=>False) fun x y=>aP ts[0]? fun t=>aP ts[1]? fun u=>ts.size=2 /\
   aP (eB P t) fun te=>(tinfo P u).bind (·.elem)≠none/\aP te.zero fun z=>z.length=te.size/\0<te.size/\0<te.bytes /\
    aP ((St.mk τ β ε π).rows ((St.mk τ β ε π).ev y)) fun xs=>lens te.size xs/\mq D ((St.mk τ β ε π).ev x).full/\(St.mk τ β ε π).wApp d te xs ((St.mk τ β ε π).ev y) ((St.mk τ β ε π).ev x).full K:=rfl
theorem xD (P:Program) (kind:FuncId->CK) (D:Option DI) (dst:Option Tmp) (K:St->Prop) (τ:Nat->AV) (β:Nat->BX) (ε:Nat->EN) (π:Nat->MP) (x:Operand) (as':Array Operand) (ts:Array TypeId):lW P kind D dst K ⟨τ,β,ε,π⟩ ⟨.value x,as',ts⟩ =
  mY (eY kind x) (gw P kind D dst K (St.mk τ β ε π) (.call ⟨.value x,as',ts⟩) ⟨⟩) (aP (cD (St.mk τ β ε π) ⟨.value x,as',ts⟩) fun f=>(∀ x∈as'.toList,fi D ((St.mk τ β ε π).ev x))/\aP (dI (fun x=>(St.mk τ β ε π).toIV ((St.mk τ β ε π).ev x)) as'.toList) fun args =>
   uQ (kind f) (wFn P f args (fun res=>K ((St.mk τ β ε π).put dst (rv res))) ⟨⟩)
    (aP dst fun d=>FK (.value x) fun f'=>f'=f/\ME P f args (fun sz rs=>K ((St.mk τ β ε π).app (some d) { v := .sl d (((St.mk τ β ε π).e d).gen+1) rs.length,ne:=some ⟨((St.mk τ β ε π).e d).gen+1,sz,rs,!rs.isEmpty,true⟩ })) ⟨⟩)) ⟨⟩:=rfl
theorem Af (P:Program) (kind:FuncId->CK) (D:Option DI) (dst:Option Tmp) (K:St->Prop) (τ:Nat->AV) (β:Nat->BX) (ε:Nat->EN) (π:Nat->MP) (as':Array Operand) (ts:Array TypeId):lW P kind D dst K ⟨τ,β,ε,π⟩ ⟨.builtin .copy,as',ts⟩=gw P kind D dst K (St.mk τ β ε π) (.call ⟨.builtin .copy,as',ts⟩) ⟨⟩:=rfl
theorem Fl (P:Program) (kind:FuncId->CK) (D:Option DI) (dst:Option Tmp) (K:St->Prop) (τ:Nat->AV) (β:Nat->BX) (ε:Nat->EN) (π:Nat->MP) (T:TypeId) (x:Option Operand):W P kind D dst K ⟨τ,β,ε,π⟩ (.makeMap T x)=gw P kind D dst K (St.mk τ β ε π) (.makeMap T x) ⟨⟩:=rfl
theorem Iu (P:Program) (kind:FuncId->CK) (D:Option DI) (dst:Option Tmp) (K:St->Prop) (τ:Nat->AV) (β:Nat->BX) (ε:Nat->EN) (π:Nat->MP) (T:TypeId) (x y:Operand) (c:Bool):W P kind D dst K ⟨τ,β,ε,π⟩ (.lookup T x y c)=gw P kind D dst K (St.mk τ β ε π) (.lookup T x y c) ⟨⟩:=rfl
theorem zj (P:Program) (kind:FuncId->CK) (D:Option DI) (dst:Option Tmp) (K:St->Prop) (τ:Nat->AV) (β:Nat->BX) (ε:Nat->EN) (π:Nat->MP) (T:TypeId) (x y z:Operand):W P kind D dst K ⟨τ,β,ε,π⟩ (.mapUpdate T x y z)=gw P kind D dst K (St.mk τ β ε π) (.mapUpdate T x y z) ⟨⟩:=rfl
theorem K6 (P:Program) (kind:FuncId->CK) (D:Option DI) (dst:Option Tmp) (K:St->Prop) (τ:Nat->AV) (β:Nat->BX) (ε:Nat->EN) (π:Nat->MP) (T:TypeId) (x:Operand):W P kind D dst K ⟨τ,β,ε,π⟩ (.range T x)=gw P kind D dst K (St.mk τ β ε π) (.range T x) ⟨⟩:=rfl
theorem N6 (P:Program) (kind:FuncId->CK) (D:Option DI) (dst:Option Tmp) (K:St->Prop) (τ:Nat->AV) (β:Nat->BX) (ε:Nat->EN) (π:Nat->MP) (x:Operand) (c:Bool):W P kind D dst K ⟨τ,β,ε,π⟩ (.next x c)=gw P kind D dst K (St.mk τ β ε π) (.next x c) ⟨⟩:=rfl
theorem K9 (P:Program) (kind:FuncId->CK) (D:Option DI) (dst:Option Tmp) (K:St->Prop) (τ:Nat->AV) (β:Nat->BX) (ε:Nat->EN) (π:Nat->MP) (x:Operand):W P kind D dst K ⟨τ,β,ε,π⟩ (.entry x)=gw P kind D dst K (St.mk τ β ε π) (.entry x) ⟨⟩:=rfl
theorem BR (P:Program) (kind:FuncId->CK) (D:Option DI) (dst:Option Tmp) (K:St->Prop) (τ:Nat->AV) (β:Nat->BX) (ε:Nat->EN) (π:Nat->MP) (f:Go.Fn) (x y:Array Operand):W P kind D dst K ⟨τ,β,ε,π⟩ (.makeFunc f x y)=gw P kind D dst K (St.mk τ β ε π) (.makeFunc f x y) ⟨⟩:=rfl
theorem xY (kind:FuncId->CK) (f:FuncId):eY kind (.func f)=decide (kind f = .sem):=rfl
theorem xX (kind:FuncId->CK) (t:Tmp):eY kind (.tmp t)=false:=rfl
theorem vL (A B:Prop):mY true A B ⟨⟩=A:=rfl
theorem uC (A B:Prop):mY false A B ⟨⟩=B:=rfl
theorem N3 (P:Program) (kind:FuncId->CK) (D:Option DI) (ops:List Oper) (K:St->Prop) (τ:Nat->AV) (β:Nat->BX) (ε:Nat->EN) (π:Nat->MP):Ws P kind D ops [] K ⟨τ,β,ε,π⟩=K ⟨τ,β,ε,π⟩:=rfl
theorem K0 (P:Program) (kind:FuncId->CK) (D:Option DI) (ops l:List Oper) (K:St->Prop) (τ:Nat->AV) (β:Nat->BX) (ε:Nat->EN) (π:Nat->MP) (dst:Option Tmp) (op:Op) (ty:TypeId) (pos:String) (aft:Array Edge) :
  Ws P kind D ops (⟨dst,op,ty,pos,aft,none⟩::l) K ⟨τ,β,ε,π⟩=W P kind D dst (Ws P kind D ops l K) ⟨τ,β,ε,π⟩ op:=rfl
theorem KZ (P:Program) (kind:FuncId->CK) (D:Option DI) (ops l:List Oper) (K:St->Prop) (τ:Nat->AV) (β:Nat->BX) (ε:Nat->EN) (π:Nat->MP) (dst:Option Tmp) (op:Op) (ty:TypeId) (pos:String) (aft:Array Edge) (j:Nat) (want:Bool) :
  Ws P kind D ops (⟨dst,op,ty,pos,aft,some (j,want)⟩::l) K ⟨τ,β,ε,π⟩=aP ((ops[j]?).bind (·.dst)) fun d=>jf (τ d) want
    (W P kind D dst (Ws P kind D ops l K) (St.setT ⟨τ,β,ε,π⟩ d (sc (.bool want))) op)
    (Ws P kind D ops l K ((St.setT ⟨τ,β,ε,π⟩ d (sc (.bool !want))).put dst (.tup [])))
    (Ws P kind D ops l K (St.put ⟨τ,β,ε,π⟩ dst (.tup []))):=rfl
theorem K3 (P:Program) (kind:FuncId->CK) (ops:List Oper) (K:St->Prop) (τ:Nat->AV) (β:Nat->BX) (ε:Nat->EN) (π:Nat->MP):WsF P kind ops [] K ⟨τ,β,ε,π⟩=K ⟨τ,β,ε,π⟩:=rfl
theorem It (P:Program) (kind:FuncId->CK) (ops l:List Oper) (K:St->Prop) (τ:Nat->AV) (β:Nat->BX) (ε:Nat->EN) (π:Nat->MP) (dst:Option Tmp) (op:Op) (ty:TypeId) (pos:String) (aft:Array Edge) :
  WsF P kind ops (⟨dst,op,ty,pos,aft,none⟩::l) K ⟨τ,β,ε,π⟩=W P kind none dst (WsF P kind ops l K) (bG kind op ⟨τ,β,ε,π⟩) op:=rfl
theorem Is (P:Program) (kind:FuncId->CK) (ops l:List Oper) (K:St->Prop) (τ:Nat->AV) (β:Nat->BX) (ε:Nat->EN) (π:Nat->MP) (dst:Option Tmp) (op:Op) (ty:TypeId) (pos:String) (aft:Array Edge) (j:Nat) (want:Bool) :
  WsF P kind ops (⟨dst,op,ty,pos,aft,some (j,want)⟩::l) K ⟨τ,β,ε,π⟩=aP ((ops[j]?).bind (·.dst)) fun d=>jf (τ d) want
    (W P kind none dst (WsF P kind ops l K) (bG kind op (St.setT ⟨τ,β,ε,π⟩ d (sc (.bool want)))) op)
    (WsF P kind ops l K ((St.setT ⟨τ,β,ε,π⟩ d (sc (.bool !want))).put dst (.tup [])))
    (WsF P kind ops l K (St.put ⟨τ,β,ε,π⟩ dst (.tup []))):=rfl
section
variable (kind:FuncId->CK) (st:St)
theorem EB (x:Operand):bG kind (.move x) st=st:=rfl
theorem yc (x:Operand):bG kind (.assign x) st=st:=rfl
theorem Ez (x y z:Operand):bG kind (.pick x y z) st=st:=rfl
theorem AP (T:TypeId):bG kind (.alloc T) st=st:=rfl
theorem GJ (T:TypeId) (x:Operand):bG kind (.box T x) st=uG (st.ev x) st:=rfl
theorem AN (T:TypeId) (ps:List (Nat×Operand)):bG kind (.build T ⟨ps⟩) st=frzs (ps.map (·.2)) st:=rfl
theorem qY (T:TypeId) (n:Nat) (ps:List (Nat×Operand)):bG kind (.buildSlice T n ⟨ps⟩) st=frzs (ps.map (·.2)) st:=rfl
theorem EC (T:TypeId) (x:Operand):bG kind (.load T x) st=st:=rfl
theorem AO (op:BinOp) (T:TypeId) (x y:Operand) (U:TypeId):bG kind (.binOp op T x y U) st=st:=rfl
theorem Ey (op:UnOp) (T:TypeId) (x:Operand):bG kind (.unOp op T x) st=st:=rfl
theorem wu (s d:TypeId) (x:Operand):bG kind (.convert s d x) st=st:=rfl
theorem AJ (T:TypeId) (x y:Operand):bG kind (.index T x y) st=st:=rfl
theorem wt (x:Operand) (n:Nat):bG kind (.extract x n) st=st:=rfl
theorem AK (T:TypeId) (x:Operand) (f:Nat):bG kind (.field T x f) st=st:=rfl
theorem sF (T:TypeId) (x:Operand) (f:Nat):bG kind (.fieldAddr T x f) st=st:=rfl
theorem sE (T:TypeId) (x y:Operand):bG kind (.indexAddr T x y) st=st:=rfl
theorem AH (T:TypeId) (x:Operand) (l h m:Option Operand):bG kind (.slice T x l h m) st=st:=rfl
theorem sC (T:TypeId) (x y:Operand):bG kind (.makeSlice T x y) st=st:=rfl
theorem AG (T:TypeId) (x y:Operand):bG kind (.store T x y) st=uG (st.ev y) st:=rfl
theorem yb (b:Builtin) (as':Array Operand) (ts:Array TypeId):bG kind (.call ⟨.builtin b,as',ts⟩) st=st:=rfl
theorem ya (x:Operand) (as':List Operand) (ts:Array TypeId):bG kind (.call ⟨.value x,⟨as'⟩,ts⟩) st=frzs (bif eY kind x then[]else as') st:=rfl
theorem ws (T:TypeId) (x:Option Operand):bG kind (.makeMap T x) st=st:=rfl
theorem x9 (T:TypeId) (x y:Operand) (c:Bool):bG kind (.lookup T x y c) st=st:=rfl
theorem sB (T:TypeId) (x y z:Operand):bG kind (.mapUpdate T x y z) st=st:=rfl
theorem AI (T:TypeId) (x:Operand):bG kind (.range T x) st=st:=rfl
theorem EA (x:Operand) (c:Bool):bG kind (.next x c) st=st:=rfl
theorem AL (x:Operand):bG kind (.entry x) st=st:=rfl
theorem uF (f:Go.Fn) (x y:Array Operand):bG kind (.makeFunc f x y) st=st:=rfl
theorem HS:frzs [] st=st:=rfl
theorem E2 (x:Operand) (l:List Operand):frzs (x::l) st=frzs l (uG (st.ev x) st):=rfl
theorem NB (x:IV):uG (.i x) st=st:=rfl
theorem Kz (x:List (List C)):uG (.fl x) st=st:=rfl
theorem HT (x:List IV):uG (.tup x) st=st:=rfl
theorem Ky (t g n:Nat):uG (.sl t g n) st=st.freeze t:=rfl
end
theorem LB (P:Program) (kind:FuncId->CK) (Q:aK->St->Prop) (τ:Nat->AV) (β:Nat->BX) (ε:Nat->EN) (π:Nat->MP):CW P kind .skip Q ⟨τ,β,ε,π⟩=Q .normal ⟨τ,β,ε,π⟩:=rfl
theorem On (P:Program) (kind:FuncId->CK) (Q:aK->St->Prop) (τ:Nat->AV) (β:Nat->BX) (ε:Nat->EN) (π:Nat->MP) (id:Nat) (l:List Oper):CW P kind (.region id ⟨l⟩ false) Q ⟨τ,β,ε,π⟩=WsF P kind l l (Q .normal) ⟨τ,β,ε,π⟩:=rfl
theorem LE (P:Program) (kind:FuncId->CK) (Q:aK->St->Prop) (τ:Nat->AV) (β:Nat->BX) (ε:Nat->EN) (π:Nat->MP) (id:Nat) (l:List Oper):CW P kind (.region id ⟨l⟩ true) Q ⟨τ,β,ε,π⟩=uS P kind l (Q .normal) ⟨τ,β,ε,π⟩ ⟨⟩:=rfl
theorem Ol (P:Program) (kind:FuncId->CK) (Q:aK->St->Prop) (τ:Nat->AV) (β:Nat->BX) (ε:Nat->EN) (π:Nat->MP) (x y:Code):CW P kind (.seq x y) Q ⟨τ,β,ε,π⟩=CW P kind x (iq (CW P kind y Q) Q) ⟨τ,β,ε,π⟩:=rfl
theorem LF (P:Program) (kind:FuncId->CK) (Q:aK->St->Prop) (τ:Nat->AV) (β:Nat->BX) (ε:Nat->EN) (π:Nat->MP) (c:Operand) (x y:Code):CW P kind (.cond c x y) Q ⟨τ,β,ε,π⟩ =
  oE (St.ev ⟨τ,β,ε,π⟩ c) fun b=>wIf b (CW P kind x Q ⟨τ,β,ε,π⟩) (CW P kind y Q ⟨τ,β,ε,π⟩) ⟨⟩:=rfl
theorem Jg (P:Program) (kind:FuncId->CK) (Q:aK->St->Prop) (τ:Nat->AV) (β:Nat->BX) (ε:Nat->EN) (π:Nat->MP) (id:Nat) (x:Code):CW P kind (.block id x) Q ⟨τ,β,ε,π⟩=CW P kind x (lm id Q) ⟨τ,β,ε,π⟩:=rfl
theorem LC (P:Program) (kind:FuncId->CK) (Q:aK->St->Prop) (τ:Nat->AV) (β:Nat->BX) (ε:Nat->EN) (π:Nat->MP) (x:Code):CW P kind (.loop x) Q ⟨τ,β,ε,π⟩=lT P kind x Q ⟨τ,β,ε,π⟩ ⟨⟩:=rfl
theorem LD (P:Program) (kind:FuncId->CK) (Q:aK->St->Prop) (τ:Nat->AV) (β:Nat->BX) (ε:Nat->EN) (π:Nat->MP) (id:Nat):CW P kind (.exit id) Q ⟨τ,β,ε,π⟩=Q (.exit id) ⟨τ,β,ε,π⟩:=rfl
theorem Om (P:Program) (kind:FuncId->CK) (Q:aK->St->Prop) (τ:Nat->AV) (β:Nat->BX) (ε:Nat->EN) (π:Nat->MP):CW P kind .ret Q ⟨τ,β,ε,π⟩=Q .ret ⟨τ,β,ε,π⟩:=rfl
theorem Je (P:Program) (kind:FuncId->CK) (Q:aK->St->Prop) (τ:Nat->AV) (β:Nat->BX) (ε:Nat->EN) (π:Nat->MP) (x:Code):CW P kind (.scope x) Q ⟨τ,β,ε,π⟩=CW P kind x Q ⟨τ,β,ε,π⟩:=rfl
theorem Jf (P:Program) (kind:FuncId->CK) (Q:aK->St->Prop) (τ:Nat->AV) (β:Nat->BX) (ε:Nat->EN) (π:Nat->MP) (l:Nat):CW P kind (.label l) Q ⟨τ,β,ε,π⟩=Q .normal ⟨τ,β,ε,π⟩:=rfl
def JI (P:Program) (β:Nat->BX) (T:TypeId) (v:AV):Option IV :=
 match v with
 | .bp t g off=>bif Nat.blt 0 g && Nat.beq (β t).gen g then(tinfo P T).bind fun ti=>ldv ti ((β t).cs.drop off)else none
 | _=>none
theorem JJ (P:Program) (p:Tmp) (T:TypeId) (τ:Nat->AV) (β:Nat->BX) (ε:Nat->EN) (π:Nat->MP):St.res1 P ⟨τ,β,ε,π⟩ (.cell p T)=JI P β T (τ p):=by
 simp only[St.res1,JI];cases tinfo P T<;>cases τ p<;>simp
theorem JH (P:Program) (β:Nat->BX) (T:TypeId) (t g off:Nat) (h1:(β t).gen=g) (h2:0<g):JI P β T (.bp t g off)=(tinfo P T).bind fun ti=>ldv ti ((β t).cs.drop off):=by
 have hb:Nat.blt 0 g=true:=by simpa using h2
 simp[JI,h1,hb]
theorem Jp (b:Bool) (K:Bool->Prop):oE (.i (.c (.v (.bool b)))) K=K b:=rfl
theorem Ov (k k':IntKind) (a b:Int) (K:IntKind->Int->Int->Prop):wI2 (.i (.c (.v (.int k a)))) (.i (.c (.v (.int k' b)))) K=(k=k'/\K k a b):=rfl
theorem Mz (xs:List IV) (K:List IV->Prop):z8 (.tup xs) K=K xs:=rfl
theorem MI (xs:List C) (K:List C->Prop):Ap (.i (.g xs)) K=K xs:=rfl
theorem Jr (x:Operand) (K1:Operand->Prop) (K2:Operand->Operand->Prop):jH [x] K1 K2=K1 x:=rfl
theorem Jq (x y:Operand) (K1:Operand->Prop) (K2:Operand->Operand->Prop):jH [x,y] K1 K2=K2 x y:=rfl
theorem FI (k:IntKind) (K:IntKind->Prop):Ot (.int k) K=K k:=rfl
theorem DH (k:IntKind) (n:Int) (K:Int->Prop):LO (.int k n) K=K n:=rfl
theorem FL (A B:Prop):uQ .fn A B=A:=rfl
theorem xw (A B:Prop):uQ .fresh A B=B:=rfl
theorem MA (f:FuncId) (K:FuncId->Prop):FK (.value (.func f)) K=K f:=rfl
theorem DF (A:Prop) (B:Operand->Prop):FJ none A B=A:=rfl
theorem DE (y:Operand) (A:Prop) (B:Operand->Prop):FJ (some y) A B=B y:=rfl
theorem xB (b:Bool) (A B C:Prop):jf (.i (.c (.v (.bool b)))) true A B C=wIf b A B ⟨⟩:=rfl
theorem vO (b:Bool) (A B C:Prop):jf (.i (.c (.v (.bool b)))) false A B C=wIf b B A ⟨⟩:=rfl
theorem FS (w:Bool) (A B C:Prop):jf (.tup []) w A B C=C:=rfl
theorem FP (A B:Prop):wIf true A B ⟨⟩=A:=by simp[wIf]
theorem DJ (A B:Prop):wIf false A B ⟨⟩=B:=by simp[wIf]
theorem FQ (b:Bool) (A B:Prop):wIf (!b) A B ⟨⟩=wIf b B A ⟨⟩:=by cases b<;>simp[wIf]
theorem D6 (P:Program) (ps:List (Nat×Operand)):Ga P none ps=True:=rfl
theorem D5 (P:Program) (x:Nat×TypeId) (ps:List (Nat×Operand)):Ga P (some x) ps=(ps=[]/\tinfo P x.2≠none):=rfl
theorem AT (x:IV) (t:Nat):oP (.i x) t=True:=rfl
theorem yf (x:List (List C)) (t:Nat):oP (.fl x) t=True:=rfl
theorem DS (st:St) (D:Option DI) (l:List C) (K:List C->Prop):st.wCells D (.ip l) K=K l:=rfl
theorem DU (st:St) (D:Option DI) (t g off:Nat) (K:List C->Prop):st.wCells D (.bp t g off) K=(((st.b t).gen=g/\0<g/\okB D t)/\K ((st.b t).cs.drop off)):=rfl
theorem DT (st:St) (D:Option DI) (t g idx off:Nat) (K:List C->Prop):st.wCells D (.ep t g idx off) K=(((st.e t).gen=g/\0<g/\okE D t)/\nT (st.e t).rs idx fun r=>K (r.drop off)):=rfl
theorem Kx (rs:List (List C)):(AV.fl rs).full = .fl rs:=rfl
theorem Kw (t g l:Nat):(AV.sl t g l).full = .sl t g l:=rfl
theorem HR:(AV.i (.c (.v (.slice none 0 0)))).full = .fl []:=rfl
theorem J2:mkZ [.lst []]=[.v (.slice none 0 0)]:=rfl
theorem O6 (x:Value):mkZ [.v x]=[.v x]:=rfl
theorem J0 (a b:C) (l:List C):mkZ (a::b::l)=a::b::l:=by unfold mkZ;split<;>simp_all
theorem GC (τ:Nat->AV) (β:Nat->BX) (ε:Nat->EN) (π:Nat->MP) (k:Nat):(St.mk τ β ε π).relax k=⟨τ,β,upd ε k { ε k with rs:=(ε k).rs.map (·.map mh) },π⟩:=rfl
attribute [go_sem] Option.map_some Kx Kw HR J2 O6 J0 GC
theorem Jt (st:St) (d:Nat) (te:TI) (xs rs:List (List C)) (y:AV) (K:St->Prop):st.wApp d te xs y (.fl rs) K=(lens te.size rs/\(rs.length+xs.length)*te.bytes<=140737488355328 /\
  K (st.app (some d) { v := .sl d ((st.e d).gen+1) (rs.length+xs.length),ne:=some ⟨(st.e d).gen+1,te.size,rs++xs,!xs.isEmpty,true⟩ })):=rfl
theorem Js (st:St) (d:Nat) (te:TI) (xs:List (List C)) (t g len:Nat) (y:AV) (K:St->Prop):st.wApp d te xs y (.sl t g len) K =
  (((st.e t).gen=g/\0<g/\(st.e t).app=true/\len=(st.e t).rs.length/\te.size=(st.e t).sz/\d≠t)/\(len+xs.length)*te.bytes<=140737488355328/\oP y t /\
   K (st.app (some d) { v := .sl d ((st.e d).gen+1) (len+xs.length),ne:=some ⟨(st.e d).gen+1,te.size,(st.e t).rs++xs,(st.e t).m || !xs.isEmpty,true⟩,kill:=some t })):=rfl
theorem MF (st:St) (D:Option DI) (o:Nat) (cs:List C) (K:AV->Prop):st.wFA D o (.ip cs) K=(o<=cs.length/\K (.ip (cs.drop o))):=rfl
theorem MH (st:St) (D:Option DI) (o t g off:Nat) (K:AV->Prop):st.wFA D o (.bp t g off) K=(((st.b t).gen=g/\0<g/\okB D t)/\K (.bp t g (off+o))):=rfl
theorem MG (st:St) (D:Option DI) (o t g i off:Nat) (K:AV->Prop):st.wFA D o (.ep t g i off) K=(((st.e t).gen=g/\0<g/\okE D t)/\K (.ep t g i (off+o))):=rfl
theorem Jo (P:Program) (st:St) (D:Option DI) (ti:TI) (i:Nat) (rs:List (List C)) (K:AV->Prop):St.wIA P st D ti i (.i (.c (.lst rs))) K=aP (ti.elem.bind (tinfo P)) fun te=>nT rs i fun r=>r.length=te.size/\K (.ip r):=rfl
theorem MB (P:Program) (st:St) (D:Option DI) (ti:TI) (i t g len:Nat) (K:AV->Prop):St.wIA P st D ti i (.sl t g len) K =
  aP (ti.elem.bind (tinfo P)) fun te=>((st.e t).gen=g/\0<g/\okE D t/\te.size=(st.e t).sz)/\i<len/\K (.ep t g i 0):=rfl
theorem MD (P:Program) (st:St) (D:Option DI) (ti:TI) (i t g off:Nat) (K:AV->Prop):St.wIA P st D ti i (.bp t g off) K =
  aP ti.arr fun a=>aP (tinfo P a.2) fun te=>((st.b t).gen=g/\0<g/\okB D t)/\i<a.1/\K (.bp t g (off+i*te.size)):=rfl
theorem MC (P:Program) (st:St) (D:Option DI) (ti:TI) (i:Nat) (cs:List C) (K:AV->Prop):St.wIA P st D ti i (.ip cs) K =
  aP ti.arr fun a=>aP (tinfo P a.2) fun te=>i<a.1/\i*te.size<=cs.length/\K (.ip (cs.drop (i*te.size))):=rfl
theorem Aa (te:TI) (l h:Nat) (rs:List (List C)) (K:AV->Prop):nR te l h (.i (.c (.lst rs))) K=(lens te.size rs/\K (.i (.c (.lst ((rs.take h).drop l))))):=rfl
theorem DC (te:TI) (l h t g n:Nat) (K:AV->Prop):nR te l h (.sl t g n) K=(if l=0 then K (.sl t g h)else l<h/\K (.sub t g l (h-l) te.size)):=rfl
theorem xv (te:TI) (l h:Nat) (rs:List (List C)) (K:AV->Prop):mZ te l h (.i (.c (.lst rs))) K=(lens te.size rs/\K (.fl ((rs.take h).drop l))):=rfl
theorem DB (st:St) (n:Nat) (cs:List C) (t g off:Nat) (K:St->Prop):st.wStore n cs (.bp t g off) K=(((st.b t).gen=g/\0<g)/\off+n<=(st.b t).cs.length/\K (st.setB t ⟨g,ck (st.b t).cs off cs⟩)):=rfl
theorem DA (st:St) (n:Nat) (cs:List C) (t g i off:Nat) (K:St->Prop):st.wStore n cs (.ep t g i off) K=(((st.e t).gen=g/\0<g/\(st.e t).m=true)/\nT (st.e t).rs i fun r=>off+n<=r.length /\
  K (st.setE t { st.e t with rs:=(st.e t).rs.set i (ck r off cs) })):=rfl
theorem E5 (pl:List (Nat×Nat)) (cs:List C):lG pl cs []=some cs:=by simp[lG]
theorem Bn (pl:List (Nat×Nat)) (cs xs:List C) (i:Nat) (l:List (Nat×List C)):lG pl cs ((i,xs)::l)=(pl[i]?).bind fun p=>if xs.length=p.2/\p.1+xs.length<=cs.length then lG pl (ck cs p.1 xs) l else none:=by
 cases h:pl[i]?<;>simp[lG,h]
theorem Ip:uN []=some []:=rfl
theorem N0 (x:Value) (l:List C):uN (.v x::l)=(uN l).map (x :: ·):=rfl
theorem KU (x:C):IV.cells (.c x)=[x]:=rfl
theorem KT (xs:List C):IV.cells (.g xs)=xs:=rfl
theorem rv_1 (x:IV):rv [x] = .i x:=rfl
theorem rv_2 (x y:IV) (l:List IV):rv (x::y::l) = .tup (x::y::l):=rfl
theorem rv_0:rv [] = .tup []:=rfl
theorem Ih (st:St) (f:FuncId) (xs:Array Operand) (ts:Array TypeId):cD st ⟨.value (.func f),xs,ts⟩=some f:=by simp[cD,St.ev]
theorem Jm (P:Program) (b:Bool) (K:Value->Prop):wUn P .not (.bool b) K=K (.bool !b):=rfl
theorem Jn (P:Program) (k:IntKind) (n:Int) (K:Value->Prop):wUn P .neg (.int k n) K=nS k (0-n) K:=rfl
theorem xH (P:Program) (T:TypeId) (x y:Operand) (k k':IntKind) (a b:Int) (K:Value->Prop):d7 P .shl T x y (.int k a) (.int k' b) K=(0<=b/\K (.int k (k.wrap (a*2 ^ (min b.toNat k.bits))))):=rfl
theorem j7 (P:Program) (T:TypeId) (x y:Operand) (k k':IntKind) (a b:Int) (K:Value->Prop):d7 P .shr T x y (.int k a) (.int k' b) K=(0<=b/\K (.int k (a.fdiv (2 ^ (min b.toNat k.bits))))):=rfl
theorem Ai (P:Program) (T:TypeId) (x y:Operand) (k':IntKind) (a:Int) (K:Value->Prop):d7 P .shr T x y (.int .u64 a) (.int k' 32) K=K (.int .u64 (a/4294967296)):=by
 have e1:(min (32:Int).toNat (IntKind.bits .u64))=32:=by decide
 have e2:a.fdiv (2 ^ 32)=a/4294967296:=by rw[Int.fdiv_eq_ediv_of_nonneg _ (by decide)];rfl
 rw[j7,e1,e2];simp
theorem Ak (P:Program) (T:TypeId) (x y:Operand) (k':IntKind) (a:Int) (K:Value->Prop):d7 P .shl T x y (.int .u64 a) (.int k' 32) K=K (.int .u64 ((a*4294967296) % 18446744073709551616)):=by
 have e1:(min (32:Int).toNat (IntKind.bits .u64))=32:=by decide
 rw[xH,e1,lO];simp
theorem F9 (P:Program) (T:TypeId) (x y:Operand) (k k':IntKind) (a b:Int) (K:Value->Prop):d7 P .add T x y (.int k a) (.int k' b) K=(k=k'/\nS k (a+b) K):=rfl
theorem FU (P:Program) (T:TypeId) (x y:Operand) (k k':IntKind) (a b:Int) (K:Value->Prop):d7 P .sub T x y (.int k a) (.int k' b) K=(k=k'/\nS k (a-b) K):=rfl
theorem F1 (P:Program) (T:TypeId) (x y:Operand) (k k':IntKind) (a b:Int) (K:Value->Prop):d7 P .mul T x y (.int k a) (.int k' b) K=(k=k'/\nS k (a*b) K):=rfl
theorem FX (P:Program) (T:TypeId) (x y:Operand) (k k':IntKind) (a b:Int) (K:Value->Prop):d7 P .quo T x y (.int k a) (.int k' b) K=(k=k'/\b≠0/\nS k (a.tdiv b) K):=rfl
theorem FV (P:Program) (T:TypeId) (x y:Operand) (k k':IntKind) (a b:Int) (K:Value->Prop):d7 P .rem T x y (.int k a) (.int k' b) K=(k=k'/\b≠0/\K (.int k (a.tmod b))):=rfl
theorem rO (P:Program) (T:TypeId) (x y:Operand) (k k':IntKind) (a b:Int) (K:Value->Prop):d7 P .and T x y (.int k a) (.int k' b) K=(k=k'/\K (.int k (k.wrap (BitVec.ofInt k.bits a &&& BitVec.ofInt k.bits b).toNat))):=rfl
theorem vS (P:Program) (T:TypeId) (x y:Operand) (k k':IntKind) (a b:Int) (K:Value->Prop):d7 P .or T x y (.int k a) (.int k' b) K=(k=k'/\K (.int k (k.wrap (BitVec.ofInt k.bits a ||| BitVec.ofInt k.bits b).toNat))):=rfl
theorem xG (P:Program) (T:TypeId) (x y:Operand) (k k':IntKind) (a b:Int) (K:Value->Prop):d7 P .xor T x y (.int k a) (.int k' b) K=(k=k'/\K (.int k (k.wrap (BitVec.ofInt k.bits a ^^^ BitVec.ofInt k.bits b).toNat))):=rfl
theorem F7 (P:Program) (T:TypeId) (x y:Operand) (k k':IntKind) (a b:Int) (K:Value->Prop):d7 P .eql T x y (.int k a) (.int k' b) K=(k=k'/\K (.bool (decide (a=b)))):=rfl
theorem FY (P:Program) (T:TypeId) (x y:Operand) (k k':IntKind) (a b:Int) (K:Value->Prop):d7 P .neq T x y (.int k a) (.int k' b) K=(k=k'/\K (.bool (!decide (a=b)))):=rfl
theorem F3 (P:Program) (T:TypeId) (x y:Operand) (k k':IntKind) (a b:Int) (K:Value->Prop):d7 P .lss T x y (.int k a) (.int k' b) K=(k=k'/\K (.bool (decide (a<b)))):=rfl
theorem F4 (P:Program) (T:TypeId) (x y:Operand) (k k':IntKind) (a b:Int) (K:Value->Prop):d7 P .leq T x y (.int k a) (.int k' b) K=(k=k'/\K (.bool (decide (a<=b)))):=rfl
theorem F5 (P:Program) (T:TypeId) (x y:Operand) (k k':IntKind) (a b:Int) (K:Value->Prop):d7 P .gtr T x y (.int k a) (.int k' b) K=(k=k'/\K (.bool (decide (b<a)))):=rfl
theorem F6 (P:Program) (T:TypeId) (x y:Operand) (k k':IntKind) (a b:Int) (K:Value->Prop):d7 P .geq T x y (.int k a) (.int k' b) K=(k=k'/\K (.bool (decide (b<=a)))):=rfl
theorem F8 (P:Program) (T:TypeId) (x y:Operand) (a b:Bool) (K:Value->Prop):d7 P .eql T x y (.bool a) (.bool b) K=(P.underlying T=some .bool/\K (.bool (a == b))):=rfl
theorem FZ (P:Program) (T:TypeId) (x y:Operand) (a b:Bool) (K:Value->Prop):d7 P .neq T x y (.bool a) (.bool b) K=(P.underlying T=some .bool/\K (.bool (!(a == b)))):=rfl
theorem HW {α:Type} (p:α->Prop):(∀ x∈([]:List α),p x)=True:=by simp
def uB (I:Nat->(Nat->AV)->(Nat->BX)->(Nat->EN)->Prop) (n:Nat) (s:St):Prop:=∃ m τ β ε π,aY s ⟨τ,β,ε,π⟩/\m<n/\I m τ β ε
theorem again {I:Nat->(Nat->AV)->(Nat->BX)->(Nat->EN)->Prop} {n:Nat} (m:Nat) {τ:Nat->AV} {β:Nat->BX} {ε:Nat->EN} {π:Nat->MP} (hm:m<n) (h:I m τ β ε):uB I n ⟨τ,β,ε,π⟩:=⟨m,τ,β,ε,π,aY.refl _,hm,h⟩
theorem tX {I:Nat->(Nat->AV)->(Nat->BX)->(Nat->EN)->Prop} {n:Nat} (m:Nat) {s:St} {τ:Nat->AV} {β:Nat->BX} {ε:Nat->EN} {π:Nat->MP} (hw:aY s ⟨τ,β,ε,π⟩) (hm:m<n) (h:I m τ β ε):uB I n s:=⟨m,τ,β,ε,π,hw,hm,h⟩
theorem A1 {P:Program} {kind:FuncId->CK} {c:Code} {Q:aK->St->Prop} (I:Nat->(Nat->AV)->(Nat->BX)->(Nat->EN)->Prop) (n:Nat) {τ:Nat->AV} {β:Nat->BX} {ε:Nat->EN} {π:Nat->MP}
  (h0:I n τ β ε) (round:∀ n τ β ε π,I n τ β ε->CW P kind c (iq (uB I n) Q) ⟨τ,β,ε,π⟩):lT P kind c Q ⟨τ,β,ε,π⟩ ⟨⟩ :=
 WP.loop (fun n s=>I n s.t s.b s.e) ⟨_,aY.refl _,h0⟩ fun n s h=>(br c (round n s.t s.b s.e s.p h)).mono fun e s' hs=>by
  cases e with
  | normal =>
   obtain⟨m,τ,β,ε,π,hw,hm,hI⟩:=hs;exact⟨⟨τ,β,ε,π⟩,m,hw,hm,hI⟩
  | exit id=>exact hs
  | ret=>exact hs
def J5 (Mid:aK->(Nat->AV)->(Nat->BX)->(Nat->EN)->Prop) (e:aK) (s:St):Prop:=Mid e s.t s.b s.e
theorem J4 (Mid:aK->(Nat->AV)->(Nat->BX)->(Nat->EN)->Prop) (e:aK) (τ:Nat->AV) (β:Nat->BX) (ε:Nat->EN) (π:Nat->MP):J5 Mid e ⟨τ,β,ε,π⟩=Mid e τ β ε:=rfl
theorem jl {P:Program} {kind:FuncId->CK} {c:Code} {Q:aK->St->Prop} (I:Nat->(Nat->AV)->(Nat->BX)->(Nat->EN)->Prop) (Mid:aK->(Nat->AV)->(Nat->BX)->(Nat->EN)->Prop) (n:Nat)
  {τ:Nat->AV} {β:Nat->BX} {ε:Nat->EN} {π:Nat->MP} (h0:I n τ β ε) (round:∀ n τ β ε π,I n τ β ε->CW P kind c (iq (uB I n) (J5 Mid)) ⟨τ,β,ε,π⟩)
  (fin:∀ e τ β ε π,Mid e τ β ε->Q e ⟨τ,β,ε,π⟩):lT P kind c Q ⟨τ,β,ε,π⟩ ⟨⟩ :=
 WP.mono (A1 (kind:=kind) I n h0 round) fun e s hs=>fin e s.t s.b s.e s.p hs
attribute [congr] Ab Ac xF DL z7 Ao vQ Ad An xx DO DK vN uD vM vP La
attribute [go_sem] HW J4 KG Me JJ JH decide_true decide_false D6 D5 AT yf E5 Bn Ip N0 KU KT rv_1 rv_2 rv_0 Ih
attribute [go_sem] N7 Iv N5 Ld PI Lb w7 N8 Lc N4 Fo K7 Fm K8 zn zm K5 zk K4 N9 DX DW DV vR xD Af Fl Iu zj K6 N6 K9 BR xY xX
attribute [go_sem] K3 It Is EB yc Ez AP GJ AN qY EC AO Ey wu AJ wt AK sF sE AH sC AG yb ya ws x9 sB AI EA AL uF HS E2 NB Kz HT Ky
attribute [go_sem] N3 K0 KZ LB On LE Ol LF Jg LC LD Om Je Jf
attribute [go_sem] sc Ce bB NF HX KC BD y5 BC GH KX KW Im pv_v pv_g MR Jx Jw Gv JG JF Kb Np No Pg NE ND Gz AX JR G4 G3 G5 EH GS GR MT yh EF GX GU GW GT Ke Kd Kn Ba Bb EX Kq Ko oJ JB JA E4 t_mk b_mk e_mk Hg EO Ho ET lO lS Jl eB St.partCells ck List.getElem?_cons_zero List.getElem?_cons_succ List.getElem?_nil List.drop_succ_cons List.drop_zero List.drop_nil List.take_succ_cons List.take_zero List.take_nil List.length_cons List.length_nil af List.map_cons List.map_nil List.append_nil List.nil_append List.cons_append List.foldl_cons List.foldl_nil List.getElem?_map List.getElem?_toArray List.forall_mem_cons List.all_cons List.all_nil Option.bind_some Option.map_some Option.bind_none Option.map_none cond_true cond_false Bool.not_true Bool.not_false Bool.true_and Bool.false_and Bool.and_true Bool.and_false Bool.true_or Bool.false_or Bool.or_true Bool.or_false if_true if_false true_and and_true or_true true_or false_or or_false false_and and_false true_implies false_implies implies_true ne_eq not_true not_false_iff reduceCtorEq Nat.zero_add Nat.add_zero Nat.zero_lt_succ ae forall_const Bool.true_eq_false Bool.false_eq_true eq_self Nat.sub_self Nat.zero_le Nat.mul_zero Nat.zero_mul
attribute [go_sem ↓] Ai Ak vL uC DD FR xz DQ DP FO FM FN Jp Ov Mz MI Jr Jq FI DH FL xw MA DF DE xB vO FS FP DJ FQ DS DU DT Jt Js MF MH MG Jo MB MD MC Aa DC xv DB DA Jm Jn F9 FU F1 FX FV rO vS xG F7 FY F3 F4 F5 F6 F8 FZ DM DN FT iG Au Ee gU zb BL
def inR:List (Nat×Nat)->Nat->Bool
 | [],_=>false
 | (a,b)::l,n=>decide (a<=n) && decide (n<=b) || inR l n
theorem Kr (n:Nat):inR [] n=false:=rfl
theorem HF (a b:Nat) (l:List (Nat×Nat)) (n:Nat):inR ((a,b)::l) n=(decide (a<=n) && decide (n<=b) || inR l n):=rfl
def Kp {α:Type} (A:List (Nat×Nat)) (f g:Nat->α):Prop:=∀ n,inR A n=false->g n=f n
theorem Kp.refl {α:Type} (A:List (Nat×Nat)) (f:Nat->α):Kp A f f:=fun _ _=>rfl
theorem s6 {α:Type} (A:List (Nat×Nat)) (f g:Nat->α) (d:Nat) (v:α) (h:inR A d=true):Kp A f (upd g d v)=Kp A f g:=by
 refine propext ⟨fun k n hn=>?_,fun k n hn=>?_⟩
 ·have:=k n hn;rw[bB]at this;split at this
  ·rename_i e;subst e;rw[h]at hn;simp at hn
  ·exact this
 ·rw[bB];split
  ·rename_i e;subst e;rw[h]at hn;simp at hn
  ·exact k n hn
theorem Kp.step {α:Type} {A A':List (Nat×Nat)} {f g h:Nat->α} (k:Kp A' g h) (hs:∀ n,inR A n=false->inR A' n=false) (k':Kp A f g):Kp A f h:=fun n hn=>(k n (hs n hn)).trans (k' n hn)
theorem Kp.step2 {α:Type} {A A':List (Nat×Nat)} {f g0 g h:Nat->α} (k0:Kp A f g0) (k:Kp A' g h) (hs:∀ n,inR A n=false->inR A' n=false) (e:Kp A f g):Kp A f h:=fun n hn=>(k n (hs n hn)).trans (e n hn)
theorem aJ {P:Program} {kind:FuncId->CK} {c:Code} {Q:aK->St->Prop} (A B E:List (Nat×Nat)) (I:Nat->(Nat->AV)->(Nat->BX)->(Nat->EN)->Prop) (Mid:aK->(Nat->AV)->(Nat->BX)->(Nat->EN)->Prop) (n:Nat)
  {τ0:Nat->AV} {β0:Nat->BX} {ε0:Nat->EN} {π0:Nat->MP} (h0:I n τ0 β0 ε0)
  (round:∀ n τ β ε π,Kp A τ0 τ->Kp B β0 β->Kp E ε0 ε->I n τ β ε->CW P kind c (iq (uB (fun n τ β ε=>Kp A τ0 τ/\Kp B β0 β/\Kp E ε0 ε/\I n τ β ε) n) (J5 (fun e τ β ε=>Kp A τ0 τ/\Kp B β0 β/\Kp E ε0 ε/\Mid e τ β ε))) ⟨τ,β,ε,π⟩)
  (fin:∀ e τ β ε π,Kp A τ0 τ->Kp B β0 β->Kp E ε0 ε->Mid e τ β ε->Q e ⟨τ,β,ε,π⟩):lT P kind c Q ⟨τ0,β0,ε0,π0⟩ ⟨⟩ :=
 jl (fun n τ β ε=>Kp A τ0 τ/\Kp B β0 β/\Kp E ε0 ε/\I n τ β ε) (fun e τ β ε=>Kp A τ0 τ/\Kp B β0 β/\Kp E ε0 ε/\Mid e τ β ε) n ⟨Kp.refl _ _,Kp.refl _ _,Kp.refl _ _,h0⟩
  (fun n τ β ε π h=>round n τ β ε π h.1 h.2.1 h.2.2.1 h.2.2.2) (fun e τ β ε π h=>fin e τ β ε π h.1 h.2.1 h.2.2.1 h.2.2.2)
theorem aS {P:Program} {kind:FuncId->CK} {c:Code} {Q:aK->St->Prop} (A B E:List (Nat×Nat)) (I:Nat->(Nat->AV)->(Nat->BX)->(Nat->EN)->Prop) (Mid:aK->(Nat->AV)->(Nat->BX)->(Nat->EN)->Prop) (n:Nat)
  {τ0:Nat->AV} {β0:Nat->BX} {ε0:Nat->EN} {π0:Nat->MP} (h0:I n τ0 β0 ε0)
  (round:∀ n τ β ε π,Kp A τ0 τ->Kp B β0 β->Kp E ε0 ε->I n τ β ε->CW P kind c (iq (uB (fun n τ β ε=>Kp A τ0 τ/\Kp B β0 β/\Kp E ε0 ε/\I n τ β ε) n) (J5 (fun e τ β ε=>Kp A τ0 τ/\Kp B β0 β/\Kp E ε0 ε/\Mid e τ β ε))) ⟨τ,β,ε,π⟩)
  (fin:∀ e τ β ε π,Kp A τ0 τ->Kp B β0 β->Kp E ε0 ε->Mid e τ β ε->∃ s',aY ⟨τ,β,ε,π⟩ s'/\Q e s'):lT P kind c Q ⟨τ0,β0,ε0,π0⟩ ⟨⟩ :=
 WP.post (jl (Q:=fun e s=>∃ s',aY s s'/\Q e s') (fun n τ β ε=>Kp A τ0 τ/\Kp B β0 β/\Kp E ε0 ε/\I n τ β ε) (fun e τ β ε=>Kp A τ0 τ/\Kp B β0 β/\Kp E ε0 ε/\Mid e τ β ε) n ⟨Kp.refl _ _,Kp.refl _ _,Kp.refl _ _,h0⟩
  (fun n τ β ε π h=>round n τ β ε π h.1 h.2.1 h.2.2.1 h.2.2.2) (fun e τ β ε π h=>fin e τ β ε π h.1 h.2.1 h.2.2.1 h.2.2.2))
attribute [go_sem] s6 Kr HF List.contains_nil List.contains_cons
attribute [go_sem] reduceIte Nat.reduceEqDiff Nat.reduceAdd Nat.reduceMul Nat.reduceLT Nat.reduceLeDiff Nat.reduceSub Nat.reduceBEq
def kd (f:FuncId):CK:=if f=67 then .fresh else if f=161 then .fresh else if f=242 then .fresh else if f=248 then .fresh else if f=62 then .fresh else if f=89 then .fresh else if f=255 then .fresh else if f=155 then .sem else if f=157 then .sem else if f=197 then .sem else if f=77 then .sem else if f=95 then .sem else if f=256 then .sem else if f=117 then .sem else if f=136 then .sem else if f=258 then .sem else .fn
theorem ak {f:FuncId} {fn:Func} {c:Code} {rl:List ResultVar} {nt:Nat} {args res:List IV} (hf:Tryz.prog.funcs[f]?=some fn) (hb:fn.body=some c) (hr:fn.results=⟨rl⟩) (hnt:fn.ntmps=nt)
  (hc : (!(fn.name == "runtime.NumGoroutine") && Nat.ble args.length nt && (asg c).all (fun d => Nat.blt d nt)) = true) (h : CW Tryz.prog kd c (KG Tryz.prog rl res) (gH args)) : Fn Tryz.prog f args res := by
 simp only[Bool.and_eq_true,Bool.not_eq_true']at hc;exact I5 kd hf hb hr hnt hc.1.1 (Nat.le_of_ble_eq_true hc.1.2) hc.2 h
theorem Pb (f:FuncId):kd f=if f=67 then .fresh else if f=161 then .fresh else if f=242 then .fresh else if f=248 then .fresh else if f=62 then .fresh else if f=89 then .fresh else if f=255 then .fresh else if f=155 then .sem else if f=157 then .sem else if f=197 then .sem else if f=77 then .sem else if f=95 then .sem else if f=256 then .sem else if f=117 then .sem else if f=136 then .sem else if f=258 then .sem else .fn:=rfl
def bc (d:Int):List C:=[.v (.int .u32 d)]
def kw (neg:Bool) (mag:List Int):List C:=[.v (.bool neg),.lst (mag.map bc)]
abbrev aB (b:Bool):AV := .i (.c (.v (.bool b)))
abbrev aI (n:Int):AV := .i (.c (.v (.int .i64 n)))
abbrev aL (l:List Int):AV := .i (.c (.lst (l.map bc)))
theorem C5 (d:Int):bc d=[.v (.int .u32 d)]:=rfl
theorem Gr (l:List Int) (i:Nat) (d:Int):(l.map bc).set i [.v (.int .u32 d)]=(l.set i d).map bc:=by rw[List.map_set,C5]
theorem In (l:List Int) (d:Int):l.map bc++[[.v (.int .u32 d)]]=(l++[d]).map bc:=by simp[bc]
theorem ES (l:List Int):lens 1 (l.map bc)=True:=by simp[lens,bc]
attribute [go_sem] Pb kw C5 ES Gr In List.length_take List.map_take List.map_drop
theorem Lf (neg:Bool) (mag:List Int):Fn Tryz.prog 187 [.g (kw neg mag)] [.c (.v (.int .i64 (if mag.length=0 then 0 else if neg then -1 else 1)))]:=by
 refine ak (fn:=Tryz.f187) (by rfl) rfl rfl rfl (by rfl) ?_;simp -dsimp -implicitDefEqProofs only[go_sem];refine aO (fun h=>?_) (fun h=>?_)<;>simp -dsimp -implicitDefEqProofs only[go_sem]
 ·simp at h;simp[h]
 ·refine j5 (fun h'=>?_) (fun h'=>?_)<;>simp -dsimp -implicitDefEqProofs only[go_sem]
  ·simp at h;simp[h,h']
  ·simp at h;simp[h,h']
theorem Og (neg:Bool) (mag:List Int):Fn Tryz.prog 207 [.g (kw neg mag)] [.g (kw (!neg && decide (0<mag.length)) mag)]:=by
 refine ak (fn:=Tryz.f207) (by rfl) rfl rfl rfl (by rfl) ?_;simp -dsimp -implicitDefEqProofs only[go_sem];refine j5 (fun h=>?_) (fun h=>?_)<;>simp -dsimp -implicitDefEqProofs only[go_sem]
 all_goals simp[h]
def trim:List Int->List Int
 | []=>[]
 | d::l=>if trim l=[]/\d=0 then[]else d::trim l
theorem fV:∀(l:List Int),trim (l++[0])=trim l
 | []=>by simp[trim]
 | d::l=>by simp[trim,fV l]
theorem pK:∀(l:List Int) (d:Int),d≠0->trim (l++[d])=l++[d]
 | [],d,h=>by simp[trim,h]
 | x::l,d,h=>by simp[trim,pK l d h]
theorem rV {α:Type} {l:List α} {n:Nat} (h:n<l.length):l.take (n+1)=l.take n++[l[n]]:=by
 rw[ab h]
theorem JP (neg:Bool) (mag:List Int) (hm:mag.length<4611686018427387904):Fn Tryz.prog 182 [.c (.lst (mag.map bc)),.c (.v (.bool neg))] [.g (kw (neg && decide (0<(trim mag).length)) (trim mag))]:=by
 refine ak (fn:=Tryz.f182) (by rfl) rfl rfl rfl (by rfl) ?_;simp -dsimp -implicitDefEqProofs only[go_sem];refine jl (fun n τ β _=>n<=mag.length/\trim mag=trim (mag.take n)/\τ 0=aL mag/\τ 1=aB neg/\τ 4 = .bp 4 1 0/\τ 5=aI n/\β 4=⟨1,kw false []⟩)
  (fun e τ β _=>e = .exit 0/\∃ n:Nat,n<=mag.length/\trim mag=mag.take n/\τ 0=aL mag/\τ 1=aB neg/\τ 4 = .bp 4 1 0/\τ 5=aI n/\β 4=⟨1,kw false []⟩) mag.length ?_ ?_ ?_
 ·simp -dsimp -implicitDefEqProofs only[go_sem];simp
 ·rintro n τ β ε π ⟨h1,h2,h3,h4,h5,h6,h7⟩;simp -dsimp -implicitDefEqProofs only[go_sem,h3,h4,h5,h6,h7];have hI:((n:Int)-1).toNat=n-1:=by omega
  refine aO (fun h=>?_) (fun h=>?_)<;>simp -dsimp -implicitDefEqProofs only[go_sem,h3,h4,h5,h6,h7]
  ·refine⟨by omega,by omega,ay (by omega) ?_⟩;simp -dsimp -implicitDefEqProofs only[go_sem,h3,h4,h5,h6,h7];have hs:mag.take n=mag.take (n-1)++[mag[n-1]]:=by
    conv=>lhs;rw[show n=n-1+1 from by omega]
    rw[rV (by omega)]
   refine aO (fun hz=>?_) (fun hz=>?_)<;>simp -dsimp -implicitDefEqProofs only[go_sem,h3,h4,h5,h6,h7]
   ·refine⟨by omega,again (n-1) (by omega) ⟨by omega,?_,?_⟩⟩
    ·rw[h2,hs];simp only[hI]at hz;rw[hz,fV]
    ·simp -dsimp -implicitDefEqProofs only[go_sem,h3,h4,h5,h6,h7];simp;omega
   ·refine⟨n,h1,?_,rfl⟩;rw[h2,hs];simp only[hI]at hz;exact pK _ _ hz
  ·refine⟨n,h1,?_,rfl⟩;rw[h2,show n=0 from by omega];simp[trim]
 ·rintro e τ β ε π ⟨rfl,n,h1,h2,h3,h4,h5,h6,h7⟩;simp -dsimp -implicitDefEqProofs only[go_sem,h3,h4,h5,h6,h7];refine j5 (fun h=>?_) (fun h=>?_)<;>simp -dsimp -implicitDefEqProofs only[go_sem,h3,h4,h5,h6,h7]
  all_goals simp[h2,h]
  all_goals omega
def Dig (l:List Int):Prop:=∀ d∈l,0<=d/\d<4294967296
def val:List Int->Int
 | []=>0
 | d::l=>d+4294967296*val l
theorem Dig.nil:Dig []:=by simp[Dig]
theorem Dig.cons {d:Int} {l:List Int}:Dig (d::l)↔(0<=d/\d<4294967296)/\Dig l:=by simp[Dig]
theorem Dig.get {l:List Int} (h:Dig l) {i:Nat} (hi:i<l.length):0<=l[i]/\l[i]<4294967296:=h _ (List.getElem_mem hi)
theorem Dig.take {l:List Int} (h:Dig l) (n:Nat):Dig (l.take n):=fun d hd=>h d (List.mem_of_mem_take hd)
theorem Dig.drop {l:List Int} (h:Dig l) (n:Nat):Dig (l.drop n):=fun d hd=>h d (List.mem_of_mem_drop hd)
theorem Dig.append {l l':List Int} (h:Dig l) (h':Dig l'):Dig (l++l'):=fun d hd=>(List.mem_append.1 hd).elim (h d) (h' d)
theorem Dig.set {l:List Int} (h:Dig l) {i:Nat} {d:Int} (hd:0<=d/\d<4294967296):Dig (l.set i d):=fun x hx=>(List.mem_or_eq_of_mem_set hx).elim (h x) (fun e=>e ▸ hd)
theorem Dig.replicate (n:Nat):Dig (List.replicate n 0):=fun d hd=>by rw[(List.mem_replicate.1 hd).2];omega
theorem aQ:∀{l:List Int},Dig l->0<=val l
 | [],_=>by simp[val]
 | d::l,h=>by
  rw[Dig.cons]at h;have:=aQ h.2;simp only[val];omega
theorem dC:∀{l:List Int},Dig l->val l<4294967296 ^ l.length
 | [],_=>by simp[val]
 | d::l,h=>by
  rw[Dig.cons]at h;have:=dC h.2;simp only[val,List.length_cons,Int.pow_succ];omega
theorem gC:∀(l l':List Int),val (l++l')=val l+4294967296 ^ l.length*val l'
 | [],l'=>by simp[val]
 | d::l,l'=>by
  simp only[List.cons_append,val,gC l l',List.length_cons,Int.pow_succ];rw[Int.mul_add];have:(4294967296:Int)*(4294967296 ^ l.length*val l')=4294967296 ^ l.length*4294967296*val l':=by rw[<-Int.mul_assoc,Int.mul_comm 4294967296]
  omega
theorem jV (n:Nat):val (List.replicate n 0)=0:=by
 induction n with
 | zero=>rfl
 | succ n ih=>simp[List.replicate_succ,val,ih]
theorem bV (n:Nat):(0:Int)<4294967296 ^ n:=Int.pow_pos (by decide)
theorem eV {l:List Int} {i:Nat} (h:i<l.length):val l=val (l.take i)+4294967296 ^ i*(l[i]+4294967296*val (l.drop (i+1))):=by
 conv=>lhs;rw[<-List.take_append_drop i l]
 rw[gC,List.drop_eq_getElem_cons h];simp only[val,List.length_take,Nat.min_eq_left (Nat.le_of_lt h)]
theorem rR:∀(l:List Int),val (trim l)=val l
 | []=>rfl
 | d::l=>by
  unfold trim;split
  ·rename_i h;have:=rR l;rw[h.1]at this;simp only[val]at this ⊢;omega
  ·simp only[val,rR l]
theorem xL:∀{l:List Int},Dig l->Dig (trim l)
 | [],h=>h
 | d::l,h=>by
  rw[Dig.cons]at h;unfold trim;split
  ·exact Dig.nil
  ·exact Dig.cons.2 ⟨h.1,xL h.2⟩
theorem uT:∀(l:List Int),trim (trim l)=trim l
 | []=>rfl
 | d::l=>by
  have ih:=uT l;have e:trim (d::l)=if trim l=[]/\d=0 then[]else d::trim l:=rfl
  rw[e];split
  ·rfl
  ·rename_i h;have e':trim (d::trim l)=if trim (trim l)=[]/\d=0 then[]else d::trim (trim l):=rfl
   rw[e',ih,if_neg h]
theorem Cg:∀(l:List Int),(trim l).length<=l.length
 | []=>ae _
 | d::l=>by
  have:=Cg l;unfold trim;split<;>simp;omega
def Tr (l:List Int):Prop:=trim l=l
theorem Tr.tail {d:Int} {l:List Int} (h:Tr (d::l)):Tr l:=by
 have e:trim (d::l)=if trim l=[]/\d=0 then[]else d::trim l:=rfl
 unfold Tr at h ⊢;rw[e]at h;split at h
 ·simp at h
 ·exact(List.cons.inj h).2
theorem nV:∀{l:List Int},Dig l->Tr l->l≠[]->4294967296 ^ (l.length-1)<=val l
 | [d],h,ht,_=>by
  rw[Dig.cons]at h;have:d≠0:=by rintro rfl;simp[Tr,trim]at ht
  simp[val];omega
 | d::e::l,h,ht,_=>by
  rw[Dig.cons]at h;have:=nV h.2 ht.tail (by simp);simp only[List.length_cons,Nat.add_sub_cancel]at this ⊢;rw[Int.pow_succ];have e1:val (d::e::l)=d+4294967296*val (e::l):=rfl;rw[e1];omega
theorem kP {a b:Nat} (h:a<=b):(4294967296:Int) ^ a<=4294967296 ^ b:=by
 obtain⟨c,rfl⟩:=Nat.exists_eq_add_of_le h;rw[Int.pow_add];have h1:=bV a;have h2:=bV c;have:(4294967296:Int) ^ a*1<=4294967296 ^ a*4294967296 ^ c:=Int.mul_le_mul_of_nonneg_left (by omega) (by omega);omega
theorem uU:∀{a b:List Int},Dig a->Dig b->Tr a->Tr b->val a=val b->a=b
 | [],[],_,_,_,_,_=>rfl
 | [],d::l,_,hb,_,tb,h=>by
  have h1:=nV hb tb (by simp);have h2:=bV ((d::l).length-1);rw[<-h]at h1;simp only[val]at h1;omega
 | d::l,[],ha,_,ta,_,h=>by
  have h1:=nV ha ta (by simp);have h2:=bV ((d::l).length-1);rw[h]at h1;simp only[val]at h1;omega
 | d::l,e::m,ha,hb,ta,tb,h=>by
  have ha':=Dig.cons.1 ha;have hb':=Dig.cons.1 hb;simp only[val]at h;have h1:d=e:=by omega
  have h2:val l=val m:=by omega
  rw[h1,uU ha'.2 hb'.2 ta.tail tb.tail h2]
def limbs (n:Nat):List Int:=if h:n=0 then[]else((n % 4294967296:Nat):Int)::limbs (n/4294967296)
termination_by n
decreasing_by exact Nat.div_lt_self (Nat.pos_of_ne_zero h) (by decide)
theorem kk (n:Nat):val (limbs n)=n:=by
 induction n using Nat.strongRecOn with
 | _ n ih =>
  unfold limbs;split
  ·rename_i h;simp[val,h]
  ·rename_i h;have:=ih (n/4294967296) (Nat.div_lt_self (Nat.pos_of_ne_zero h) (by decide));simp only[val,this];omega
theorem nj (n:Nat):Dig (limbs n):=by
 induction n using Nat.strongRecOn with
 | _ n ih =>
  unfold limbs;split
  ·exact Dig.nil
  ·rename_i h;exact Dig.cons.2 ⟨by omega,ih _ (Nat.div_lt_self (Nat.pos_of_ne_zero h) (by decide))⟩
theorem oY {n:Nat} (h:limbs n=[]):n=0:=by
 have:=kk n;rw[h]at this;simp[val]at this;omega
theorem sW (n:Nat):Tr (limbs n):=by
 induction n using Nat.strongRecOn with
 | _ n ih =>
  unfold limbs;split
  ·rfl
  ·rename_i h;have:=ih (n/4294967296) (Nat.div_lt_self (Nat.pos_of_ne_zero h) (by decide));unfold Tr trim;rw[this,if_neg];rintro ⟨h1,h2⟩;have:=oY h1;omega
theorem Hk {l:List Int} (h:Dig l):trim l=limbs (val l).toNat:=by
 refine uU (xL h) (nj _) (uT l) (sW _) ?_;rw[rR,kk,Int.toNat_of_nonneg (aQ h)]
theorem ER {n k:Nat} (h:n<4294967296 ^ k):(limbs n).length<=k:=by
 rcases Nat.lt_or_ge k (limbs n).length with h1|h1
 ·have hne:limbs n≠[]:=by intro e;rw[e]at h1;simp at h1
  have h2:=nV (nj n) (sW n) hne;rw[kk]at h2;have h3:(4294967296:Int) ^ k<=4294967296 ^ ((limbs n).length-1):=kP (by omega);have h4:((4294967296 ^ k:Nat):Int)=(4294967296:Int) ^ k:=by simp
  omega
 ·exact h1
theorem Hl (n:Nat):n<4294967296 ^ (limbs n).length:=by
 have:=dC (nj n);rw[kk]at this;have h4:((4294967296 ^ (limbs n).length:Nat):Int)=(4294967296:Int) ^ (limbs n).length:=by simp
 omega
theorem o5 (x:Int):Fn Tryz.prog 206 [.c (.v (.int .i64 x))] [.c (.v (.bool false))]:=by
 refine ak (fn:=Tryz.f206) (by rfl) rfl rfl rfl (by rfl) ?_;simp -dsimp -implicitDefEqProofs only[go_sem]
theorem oZ (x:Int):Fn Tryz.prog 245 [.c (.v (.int .u32 x))] [.c (.v (.bool false))]:=by
 refine ak (fn:=Tryz.f245) (by rfl) rfl rfl rfl (by rfl) ?_;simp -dsimp -implicitDefEqProofs only[go_sem]
theorem ia {a b:Int} (h:a=b):aI a=aI b:=by rw[h]
def ef (x y:Int):Int:=if x<y then -1 else if y<x then 1 else 0
theorem eP (x y:Int):Fn Tryz.prog 183 [.c (.v (.int .i64 x)),.c (.v (.int .i64 y))] [.c (.v (.int .i64 (ef x y)))]:=by
 refine ak (fn:=Tryz.f183) (by rfl) rfl rfl rfl (by rfl) ?_;simp -dsimp -implicitDefEqProofs only[go_sem];refine an (o5 x) ?_;simp -dsimp -implicitDefEqProofs only[go_sem];refine an (o5 y) ?_;simp -dsimp -implicitDefEqProofs only[go_sem];refine aO (fun h=>?_) (fun h=>?_)<;>simp -dsimp -implicitDefEqProofs only[go_sem]
 ·simp[ef,h]
 ·refine aO (fun h=>?_) (fun h=>?_)<;>simp -dsimp -implicitDefEqProofs only[go_sem]<;>simp[ef, *]
theorem uz (x y:Int):Fn Tryz.prog 225 [.c (.v (.int .u32 x)),.c (.v (.int .u32 y))] [.c (.v (.int .i64 (ef x y)))]:=by
 refine ak (fn:=Tryz.f225) (by rfl) rfl rfl rfl (by rfl) ?_;simp -dsimp -implicitDefEqProofs only[go_sem];refine an (oZ x) ?_;simp -dsimp -implicitDefEqProofs only[go_sem];refine an (oZ y) ?_;simp -dsimp -implicitDefEqProofs only[go_sem];refine aO (fun h=>?_) (fun h=>?_)<;>simp -dsimp -implicitDefEqProofs only[go_sem]
 ·simp[ef,h]
 ·refine aO (fun h=>?_) (fun h=>?_)<;>simp -dsimp -implicitDefEqProofs only[go_sem]<;>simp[ef, *]
theorem cU {x y:Int}:ef x y=0↔x=y:=by unfold ef;split<;>(try split)<;>omega
theorem rE {a b:List Int} (ha:Dig a) (hb:Dig b) (tb:Tr b) (h:a.length<b.length):val a<val b:=by
 have h1:=dC ha;have h2:=nV hb tb (by intro e;simp[e]at h);have h3:=kP (a:=a.length) (b:=b.length-1) (by omega);omega
theorem wU {a b:List Int} (ha:Dig a) (hb:Dig b) {i:Nat} (hi:i<a.length) (hi':i<b.length) (hd:a.drop (i+1)=b.drop (i+1)) (h:a[i]<b[i]):val a<val b:=by
 rw[eV hi,eV hi',hd];have h1:=dC (ha.take i);have h2:=aQ (hb.take i);simp only[List.length_take,Nat.min_eq_left (Nat.le_of_lt hi)]at h1;have h3:=bV i;have h4:(4294967296:Int) ^ i*(a[i]+4294967296*val (b.drop (i+1))+1)<=4294967296 ^ i*(b[i]+4294967296*val (b.drop (i+1))):=Int.mul_le_mul_of_nonneg_left (by omega) (by omega);rw[Int.mul_add _ _ 1,Int.mul_one]at h4;omega
theorem BE (a b:List Int) (ha:Dig a) (hb:Dig b) (ta:Tr a) (tb:Tr b) (hl:a.length<4611686018427387904):Fn Tryz.prog 211 [.c (.lst (a.map bc)),.c (.lst (b.map bc))] [.c (.v (.int .i64 (ef (val a) (val b))))]:=by
 refine ak (fn:=Tryz.f211) (by rfl) rfl rfl rfl (by rfl) ?_;simp -dsimp -implicitDefEqProofs only[go_sem];refine an (eP _ _) ?_;simp -dsimp -implicitDefEqProofs only[go_sem];refine aO (fun h=>?_) (fun h=>?_)<;>simp -dsimp -implicitDefEqProofs only[go_sem]
 ·have hlen:a.length=b.length:=by simp[cU]at h;omega
  refine⟨by omega,?_⟩;refine jl (fun n τ β _=>n<=a.length/\a.drop n=b.drop n/\τ 0=aL a/\τ 1=aL b/\τ 6=aI ((n:Int)-1))
   (fun e τ β _=>(e = .exit 0/\a=b)\/(e = .ret/\τ 4=aI (ef (val a) (val b)))) a.length ?_ ?_ ?_
  ·simp -dsimp -implicitDefEqProofs only[go_sem];simp[hlen]
  ·rintro n τ β ε π ⟨h1,h2,h3,h4,h5⟩;simp -dsimp -implicitDefEqProofs only[go_sem,h3,h4,h5];refine aO (fun h=>?_) (fun h=>?_)<;>simp -dsimp -implicitDefEqProofs only[go_sem,h3,h4,h5]
   ·have hn:((n:Int)-1).toNat=n-1:=by omega
    refine ao (by rfl) 10 [] false true (by rfl) (by rfl) (by decide +kernel) ?_;simp -dsimp -implicitDefEqProofs only[go_sem,h3,h4,h5];refine⟨by omega,ay (by omega) ?_⟩;simp -dsimp -implicitDefEqProofs only[go_sem,h3,h4,h5];refine⟨by omega,ay (by omega) ?_⟩;simp -dsimp -implicitDefEqProofs only[go_sem,h3,h4,h5];refine an (uz _ _) ?_;simp -dsimp -implicitDefEqProofs only[go_sem,h3,h4,h5];simp only[hn];have d1:a.drop (n-1)=a[n-1]::a.drop n:=by rw[List.drop_eq_getElem_cons (by omega)];congr 2;omega
    have d2:b.drop (n-1)=b[n-1]::b.drop n:=by rw[List.drop_eq_getElem_cons (by omega)];congr 2;omega
    refine aO (fun hz=>?_) (fun hz=>?_)<;>simp -dsimp -implicitDefEqProofs only[go_sem,h3,h4,h5]
    ·refine⟨by omega,again (n-1) (by omega) ⟨by omega,?_,?_⟩⟩
     ·rw[d1,d2,h2,cU.1 hz]
     ·simp -dsimp -implicitDefEqProofs only[go_sem,h3,h4];exact ia (by omega)
    ·have e1:n-1+1=n:=by omega
     refine ia ?_;rcases Int.lt_trichotomy a[n-1] b[n-1]with h6|h6|h6
     ·have:=wU ha hb (i:=n-1) (by omega) (by omega) (by rw[e1];exact h2) h6;simp[ef,h6,this]
     ·exact absurd (cU.2 h6) hz
     ·have:=wU hb ha (i:=n-1) (by omega) (by omega) (by rw[e1];exact h2.symm) h6;simp[ef,h6,this,Int.not_lt.2 (Int.le_of_lt this),Int.not_lt.2 (Int.le_of_lt h6)]
   ·have:n=0:=by omega
    subst this;simpa using h2
  ·rintro e τ β ε π (⟨rfl,rfl⟩|⟨rfl,h⟩)
   ·simp -dsimp -implicitDefEqProofs only[go_sem];simp[ef]
   ·simp -dsimp -implicitDefEqProofs only[go_sem,h]
 ·rcases Nat.lt_trichotomy a.length b.length with h1|h1|h1
  ·have:=rE ha hb tb h1;simp[ef,this,h1]
  ·simp[ef,h1]at h
  ·have:=rE hb ha ta h1;simp[ef,this,h1,Int.not_lt.2 (Int.le_of_lt this),Nat.not_lt.2 (Nat.le_of_lt h1)]
end Go.AM
