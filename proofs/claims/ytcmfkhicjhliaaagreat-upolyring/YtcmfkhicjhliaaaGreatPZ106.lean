/- Lemmas, part 7 of 24: The rules by which a walk computes; Loops, of which it is kept in mind what they leave as it was; Integers: signs, limbs; Integers: what lists of limbs are worth; comparing; Integers: comparing, small numbers. No condition. -/
import Derived.Test.YtcmfkhicjhliaaaGreatPZ105
set_option maxRecDepth 65536
set_option linter.unusedSimpArgs false
set_option linter.unusedVariables false
set_option linter.unusedSectionVars false
namespace Go.AM
open Go.Proofs
theorem bz {α:Type} (f:Nat->α) (d:Nat) (v:α) (n:Nat):upd f d v n=if n=d then v else f n:=by
 unfold upd;by_cases h:n=d
 ·subst h;simp
 ·have:Nat.beq n d=false:=by
   cases hb:Nat.beq n d with
   | false=>rfl
   | true=>exact absurd (Nat.eq_of_beq_eq_true hb) h
  simp[h,this]
theorem Dr {α:Type} (x:α) (K:α->Prop):aP (some x) K=K x:=rfl
theorem FF (k:IntKind) (i:Int) (K:Nat->Prop):lJ (.i (.c (.v (.int k i)))) K=(0<=i/\K i.toNat):=rfl
theorem xr (k:IntKind) (i:Nat) (K:Nat->Prop):lJ (.i (.c (.v (.int k (i:Int))))) K=K i:=by
 simp[lJ]
theorem DE (st:St) (n:Nat) (K:Nat->Prop):st.wEnd none n K=K n:=rfl
theorem DD (st:St) (x:Operand) (n:Nat) (K:Nat->Prop):st.wEnd (some x) n K=lJ (st.ev x) K:=rfl
theorem Nr (st:St) (n:Tmp):st.ev (.tmp n)=st.t n:=rfl
theorem HP (st:St) (v:Value):st.ev (.const v)=kY v:=rfl
theorem Kv (st:St) (f:FuncId):st.ev (.func f) = .i (.c (.v (.func (.func f) #[] #[]))):=rfl
theorem Bz (k:IntKind) (n:Int):kY (.int k n) = .i (.c (.v (.int k n))):=rfl
theorem yX (b:Bool):kY (.bool b) = .i (.c (.v (.bool b))):=rfl
theorem By:kY (.slice none 0 0) = .fl []:=rfl
section
variable (t:Nat->AV) (b:Nat->BX) (e:Nat->EN) (p:Nat->MP)
theorem Gy (d:Tmp) (v:AV):St.put ⟨t,b,e,p⟩ (some d) v=⟨upd t d v,b,e,p⟩:=rfl
theorem KN (d:Tmp) (v:AV) (cs:List C):St.app ⟨t,b,e,p⟩ (some d) { v:=v,nb:=some cs }=⟨upd t d v,upd b d ⟨(b d).gen+1,cs⟩,e,p⟩:=rfl
theorem KM (d:Tmp) (v:AV) (n:EN):St.app ⟨t,b,e,p⟩ (some d) { v:=v,ne:=some n }=⟨upd t d v,b,upd e d n,p⟩:=rfl
theorem Ie (d k:Tmp) (v:AV) (n:EN):St.app ⟨t,b,e,p⟩ (some d) { v:=v,ne:=some n,kill:=some k } =
  ⟨upd t d v,b,upd (upd e k ⟨(e k).gen+1,0,[],false,false⟩) d n,p⟩:=rfl
theorem oC (d:Nat) (v:AV):St.setT ⟨t,b,e,p⟩ d v=⟨upd t d v,b,e,p⟩:=rfl
theorem Ju (d:Nat) (v:BX):St.setB ⟨t,b,e,p⟩ d v=⟨t,upd b d v,e,p⟩:=rfl
theorem Jt (d:Nat) (v:EN):St.setE ⟨t,b,e,p⟩ d v=⟨t,b,upd e d v,p⟩:=rfl
theorem ES (k:Nat):St.freeze ⟨t,b,e,p⟩ k=⟨t,b,upd e k { e k with m:=false,app:=false },p⟩:=rfl
theorem t_mk:St.t ⟨t,b,e,p⟩=t:=rfl
theorem b_mk:St.b ⟨t,b,e,p⟩=b:=rfl
theorem e_mk:St.e ⟨t,b,e,p⟩=e:=rfl
end
def sZ (args:List IV) (n:Nat):AV:=match args[n]? with|some x => .i x|none => .any
def lu (_:Nat):BX:=⟨0,[]⟩
def nB (_:Nat):EN:=⟨0,0,[],false,false⟩
def mq (_:Nat):MP:={ gen:=0,kv:=[] }
theorem Kg (args:List IV):hZ args=⟨sZ args,lu,nB,mq⟩:=rfl
theorem A6 (x:IV) (l:List IV):sZ (x::l) 0 = .i x:=rfl
theorem A7 (x:IV) (l:List IV) (n:Nat):sZ (x::l) (n+1)=sZ l n:=rfl
theorem EK (n:Nat):sZ [] n = .any:=rfl
theorem Ki (n:Nat):(lu n).gen=0:=rfl
theorem Kh (n:Nat):(nB n).gen=0:=rfl
theorem pv_v (x:Value):AV.pv (.i (.c (.v x)))=some x:=rfl
theorem pv_g (cs:List C):AV.pv (.i (.g cs))=(uE cs).map fun l => .agg l.toArray:=rfl
theorem MC (st:St) (x:IV):st.toIV (.i x)=some x:=rfl
theorem Jq (st:St) (rs:List (List C)):st.toIV (.fl rs)=some (.c (.lst rs)):=rfl
theorem Jp (st:St) (t g len:Nat) (h1:(st.e t).gen=g) (h2:0<g) (h3:(st.e t).m=false):st.toIV (.sl t g len)=some (.c (.lst ((st.e t).rs.take len))):=by
 have hb:Nat.blt 0 g=true:=by simpa using h2
 simp[St.toIV,h1,h3,hb]
theorem Gk (st:St) (rs:List (List C)):st.rows (.i (.c (.lst rs)))=some rs:=rfl
theorem Jz (st:St) (rs:List (List C)):st.rows (.fl rs)=some rs:=rfl
theorem Jy (st:St) (t g len:Nat) (h1:(st.e t).gen=g) (h2:0<g):st.rows (.sl t g len)=some ((st.e t).rs.take len):=by
 have hb:Nat.blt 0 g=true:=by simpa using h2
 simp[St.rows,h1,hb]
theorem J4 (st:St) (rs:List (List C)):st.len (.i (.c (.lst rs)))=some rs.length:=rfl
theorem Na (st:St) (rs:List (List C)):st.len (.fl rs)=some rs.length:=rfl
theorem M9 (st:St) (t g len:Nat) (h1:(st.e t).gen=g) (h2:0<g):st.len (.sl t g len)=some len:=by
 have hb:Nat.blt 0 g=true:=by simpa using h2
 simp[St.len,h1,hb]
theorem OX (st:St) (x:IV):st.fin (.i x)=some x:=rfl
theorem Nq (st:St) (rs:List (List C)):st.fin (.fl rs)=some (.c (.lst rs)):=rfl
theorem Np (st:St) (t g len:Nat) (h1:(st.e t).gen=g) (h2:0<g):st.fin (.sl t g len)=some (.c (.lst ((st.e t).rs.take len))):=by
 have hb:Nat.blt 0 g=true:=by simpa using h2
 simp[St.fin,h1,hb]
theorem Gq (P:Program) (st:St) (t:Tmp):st.res1 P (.tmp t)=st.fin (st.t t):=rfl
theorem AS (v:AV):ff none v=True:=by cases v<;>simp[ff,okE]
theorem JK (D:Option DI) (x:IV):ff D (.i x)=True:=rfl
theorem GS (D:Option DI) (x:List (List C)):ff D (.fl x)=True:=rfl
theorem GT (D:Option DI) (y:Operand) (x:IV):pW D y (.i x)=True:=rfl
theorem Eu (D:Option DI) (y:Operand) (t g off:Nat):pW D y (.sl t g off)=(okE D t\/okF D/\y = .tmp t):=rfl
theorem GJ:okF none=True:=rfl
theorem GI (al:List Nat) (b fr:Bool) (nk:Option (List Nat)):okF (some ⟨al,b,fr,nk⟩)=(fr=true):=rfl
theorem ME (a b:Nat):(Operand.tmp a=Operand.tmp b)=(a=b):=by simp
theorem yb (t g o:Nat):pV none (.bp t g o)=True:=rfl
theorem Es (t g o t' g' o':Nat):pV (some (.bp t' g' o')) (.bp t g o)=(t≠t'):=rfl
theorem GR (D:Option DI) (t g off:Nat):ff D (.sl t g off)=okE D t:=rfl
theorem GO (t:Nat):okB none t=True:=rfl
theorem GL (t:Nat):okE none t=True:=rfl
theorem GN (al:List Nat) (b fr:Bool) (nk:Option (List Nat)) (t:Nat):okB (some ⟨al,b,fr,nk⟩) t=(al.contains t=false):=rfl
theorem GK (al:List Nat) (b fr:Bool) (t:Nat):okE (some ⟨al,b,fr,none⟩) t=(b=false):=by simp[okE]
theorem GM (al:List Nat) (b fr:Bool) (ks:List Nat) (t:Nat):okE (some ⟨al,b,fr,some ks⟩) t=(b=false\/ks.contains t=false):=by simp[okE]
theorem yd (v:AV):me none v=True:=by cases v<;>simp[me]
theorem Ew (D:Option DI) (rs:List (List C)):me D (.fl rs)=True:=rfl
theorem Ev (al:List Nat) (b fr:Bool) (v:AV):me (some ⟨al,b,fr,none⟩) v=True:=by cases v<;>simp[me]
attribute [go_sem] GM yd Ew Ev
theorem J7 (n by':Nat) (z:Option (List C)) (e:Option TypeId) (a:Option (Nat×TypeId)) (f:List (Nat×TypeId)) (cs:List C) (h:n<=cs.length):ldv ⟨true,n,by',z,e,a,f⟩ cs=some (.g (cs.take n)):=by simp[ldv,h]
theorem J6 (n by':Nat) (z:Option (List C)) (e:Option TypeId) (a:Option (Nat×TypeId)) (f:List (Nat×TypeId)) (c:C) (cs:List C):ldv ⟨false,n,by',z,e,a,f⟩ (c::cs)=some (.c c):=by simp[ldv]
theorem iu (K:St->Prop) (Q:aK->St->Prop) (s:St):ii K Q .normal s=K s:=rfl
theorem Ap (K:St->Prop) (Q:aK->St->Prop) (id:Nat) (s:St):ii K Q (.exit id) s=Q (.exit id) s:=rfl
theorem D2 (K:St->Prop) (Q:aK->St->Prop) (s:St):ii K Q .ret s=Q .ret s:=rfl
theorem gN (n:Nat) (Q:aK->St->Prop) (s:St):lf n Q .normal s=Q .normal s:=rfl
theorem y6 (n:Nat) (Q:aK->St->Prop) (id:Nat) (s:St):lf n Q (.exit id) s=if id=n then Q .normal s else Q (.exit id) s:=rfl
theorem BH (n:Nat) (Q:aK->St->Prop) (s:St):lf n Q .ret s=Q .ret s:=rfl
theorem G7 {α β:Type} (f:α->Option β):dH f []=some []:=rfl
theorem EB {α β:Type} (f:α->Option β) (x:α) (xs:List α):dH f (x::xs)=(f x).bind fun y=>(dH f xs).bind fun ys=>some (y::ys):=by
 cases h:f x<;>cases h':dH f xs<;>simp[dH,h,h']
theorem Hf (n:Nat):lens n []=True:=by simp[lens]
theorem EG (n:Nat) (r:List C) (rs:List (List C)):lens n (r::rs)=(r.length=n/\lens n rs):=by simp[lens]
theorem FC (n:Int) (K:Value->Prop):nK .i64 n K=((-9223372036854775808<=n/\n<9223372036854775808)/\K (.int .i64 n)):=rfl
theorem Fz (n:Int) (K:Value->Prop):nK .u64 n K=K (.int .u64 (IntKind.wrap .u64 n)):=rfl
theorem FA (n:Int) (K:Value->Prop):nK .u32 n K=K (.int .u32 (IntKind.wrap .u32 n)):=rfl
theorem lG (n:Int):IntKind.wrap .u64 n=n % 18446744073709551616:=by simp[IntKind.wrap,IntKind.bits,IntKind.signed]
theorem lH (n:Int):IntKind.wrap .u32 n=n % 4294967296:=by simp[IntKind.wrap,IntKind.bits,IntKind.signed]
theorem Je (n:Int):IntKind.wrap .u8 n=n % 256:=by simp[IntKind.wrap,IntKind.bits,IntKind.signed]
theorem oo (n:Int) (h1 : -9223372036854775808<=n) (h2:n<9223372036854775808):IntKind.wrap .i64 n=n:=by
 simp only[IntKind.wrap,IntKind.bits,IntKind.signed,Bool.true_and,Nat.reduceSub,Int.reducePow];split<;>rename_i h4<;>simp only[decide_eq_true_eq,ge_iff_le]at h4<;>omega
theorem z6 {α:Type} {o o':Option α} (K:α->Prop) (h:o=o'):aP o K=aP o' K:=by rw[h]
theorem z7 {v v':AV} (K:Nat->Prop) (h:v=v'):lJ v K=lJ v' K:=by rw[h]
theorem xz {v v':AV} (K:Bool->Prop) (h:v=v'):ou v K=ou v' K:=by rw[h]
theorem Dz {v v' u u':AV} (K:IntKind->Int->Int->Prop) (h:v=v') (h':u=u'):wI2 v u K=wI2 v' u' K:=by rw[h,h']
theorem zX {v v':AV} (K:List IV->Prop) (h:v=v'):zY v K=zY v' K:=by rw[h]
theorem Aj {v v':AV} (K:List C->Prop) (h:v=v'):Ak v K=Ak v' K:=by rw[h]
theorem vF (st:St) (D:Option DI) {v v':AV} (K:List C->Prop) (h:v=v'):st.wCells D v K=st.wCells D v' K:=by rw[h]
theorem z8 {rs rs':List (List C)} {i i':Nat} (K:List C->Prop) (h:rs=rs') (h':i=i'):nL rs i K=nL rs' i' K:=by rw[h,h']
theorem Ai (st:St) (d:Nat) (te:TI) {xs xs':List (List C)} {x x' y y':AV} (K:St->Prop) (h:xs=xs') (h1:y=y') (h2:x=x'):st.wApp d te xs y x K=st.wApp d te xs' y' x' K:=by rw[h,h1,h2]
theorem xq {k k':CK} (A B:Prop) (h:k=k'):uH k A B=uH k' A B:=by rw[h]
theorem DC (st:St) (D:Option DI) {n n':Nat} {v v':AV} (K:AV->Prop) (h:n=n') (h':v=v'):st.wFA D n v K=st.wFA D n' v' K:=by rw[h,h']
theorem Dy (P:Program) (st:St) (D:Option DI) {ti ti':TI} {i i':Nat} {v v':AV} (K:AV->Prop) (h:ti=ti') (h1:i=i') (h2:v=v'):St.wIA P st D ti i v K=St.wIA P st D ti' i' v' K:=by rw[h,h1,h2]
theorem vC (te:TI) {l l' h h':Nat} {v v':AV} (K:AV->Prop) (e:l=l') (e1:h=h') (e2:v=v'):nJ te l h v K=nJ te l' h' v' K:=by rw[e,e1,e2]
theorem us (te:TI) {l l' h h':Nat} {v v':AV} (K:AV->Prop) (e:l=l') (e1:h=h') (e2:v=v'):mS te l h v K=mS te l' h' v' K:=by rw[e,e1,e2]
theorem vB (st:St) {n n':Nat} {cs cs':List C} {v v':AV} (K:St->Prop) (h:n=n') (h1:cs=cs') (h2:v=v'):st.wStore n cs v K=st.wStore n' cs' v' K:=by rw[h,h1,h2]
theorem vE {v v':AV} (w:Bool) (A B C:Prop) (h:v=v'):ja v w A B C=ja v' w A B C:=by rw[h]
theorem K0 (P:Program) (kind:FuncId->CK) (D:Option DI) (dst:Option Tmp) (K:St->Prop) {st st':St} (op:Op) (h:st=st'):W P kind D dst K st op=W P kind D dst K st' op:=by rw[h]
theorem DA (r:List C) (rs:List (List C)) (K:List C->Prop):nL (r::rs) 0 K=K r:=by simp[nL]
theorem DB (r:List C) (rs:List (List C)) (n:Nat) (K:List C->Prop):nL (r::rs) (n+1) K=nL rs n K:=by simp[nL]
def wEl {α:Type} (l:List α) (i:Nat) (K:α->Prop) (_:Tg K):Prop:=∃ a,l[i]?=some a/\K a
theorem FH {α:Type} (l:List α) (f:α->List C) (i:Nat) (K:List C->Prop):nL (l.map f) i K=wEl l i (fun a=>K (f a)) ⟨⟩:=by
 simp only[nL,wEl,List.getElem?_map];cases l[i]?<;>simp
theorem ay {α:Type} {l:List α} {i:Nat} {K:α->Prop} (h:i<l.length) (hK:K l[i]):wEl l i K ⟨⟩:=⟨l[i],by simp[h],hK⟩
theorem av {α:Type} {l:List α} {i:Nat} {K:α->Prop} {a:α} (h:l[i]?=some a) (hK:K a):wEl l i K ⟨⟩:=⟨a,h,hK⟩
theorem NR (P:Program) (kind:FuncId->CK) (D:Option DI) (dst:Option Tmp) (K:St->Prop) (τ:Nat->AV) (β:Nat->BX) (ε:Nat->EN) (π:Nat->MP) (x:Operand):W P kind D dst K ⟨τ,β,ε,π⟩ (.move x) =
  (K ((St.mk τ β ε π).put dst ((St.mk τ β ε π).ev x))):=rfl
theorem In (P:Program) (kind:FuncId->CK) (D:Option DI) (dst:Option Tmp) (K:St->Prop) (τ:Nat->AV) (β:Nat->BX) (ε:Nat->EN) (π:Nat->MP) (x:Operand):W P kind D dst K ⟨τ,β,ε,π⟩ (.assign x) =
  (K ((St.mk τ β ε π).put dst ((St.mk τ β ε π).ev x))):=rfl
theorem NP (P:Program) (kind:FuncId->CK) (D:Option DI) (dst:Option Tmp) (K:St->Prop) (τ:Nat->AV) (β:Nat->BX) (ε:Nat->EN) (π:Nat->MP) (c x y:Operand):W P kind D dst K ⟨τ,β,ε,π⟩ (.pick c x y) =
  (ou ((St.mk τ β ε π).ev c) fun t=>wIf t (K ((St.mk τ β ε π).put dst ((St.mk τ β ε π).ev x))) (K ((St.mk τ β ε π).put dst ((St.mk τ β ε π).ev y))) ⟨⟩):=rfl
theorem K5 (P:Program) (kind:FuncId->CK) (D:Option DI) (dst:Option Tmp) (K:St->Prop) (τ:Nat->AV) (β:Nat->BX) (ε:Nat->EN) (π:Nat->MP) (T:TypeId):W P kind D dst K ⟨τ,β,ε,π⟩ (.alloc T) =
  (aP dst fun d=>aP (tinfo P T) fun ti=>aP ti.zero fun cs=>K ((St.mk τ β ε π).app (some d) { v := .bp d (((St.mk τ β ε π).b d).gen+1) 0,nb:=some cs })):=rfl
theorem Pn (P:Program) (kind:FuncId->CK) (D:Option DI) (dst:Option Tmp) (K:St->Prop) (τ:Nat->AV) (β:Nat->BX) (ε:Nat->EN) (π:Nat->MP) (T:TypeId) (x:Operand):W P kind D dst K ⟨τ,β,ε,π⟩ (.box T x) =
  (aP dst fun d=>ff D ((St.mk τ β ε π).ev x)/\aP ((St.mk τ β ε π).toIV ((St.mk τ β ε π).ev x)) fun y=>K ((St.mk τ β ε π).app (some d) { v := .bp d (((St.mk τ β ε π).b d).gen+1) 0,nb:=some y.cells })):=rfl
theorem K3 (P:Program) (kind:FuncId->CK) (D:Option DI) (dst:Option Tmp) (K:St->Prop) (τ:Nat->AV) (β:Nat->BX) (ε:Nat->EN) (π:Nat->MP) (T:TypeId) (ps:Array (Nat×Operand)):W P kind D dst K ⟨τ,β,ε,π⟩ (.build T ps) =
  (aP (tinfo P T) fun ti=>aP ti.zero fun z=>ti.agg=true/\FX P ti.arr ps.toList /\
   aP (dH (fun f=>(tinfo P f.2).map fun t=>(f.1,t.size)) ti.flds) fun pl=>(∀ p∈ps.toList,ff D ((St.mk τ β ε π).ev p.2))/\aP ((St.mk τ β ε π).partCells ps.toList) fun l =>
   aP (lv pl z l) fun cs=>K ((St.mk τ β ε π).put dst (.i (.g cs)))):=rfl
theorem wW (P:Program) (kind:FuncId->CK) (D:Option DI) (dst:Option Tmp) (K:St->Prop) (τ:Nat->AV) (β:Nat->BX) (ε:Nat->EN) (π:Nat->MP) (T:TypeId) (n:Nat) (ps:Array (Nat×Operand)):W P kind D dst K ⟨τ,β,ε,π⟩ (.buildSlice T n ps) =
  (aP (eB P T) fun ti=>aP ti.zero fun z=>z.length=ti.size/\0<ti.size/\n*ti.size<=16777216/\(∀ p∈ps.toList,ff D ((St.mk τ β ε π).ev p.2))/\aP ((St.mk τ β ε π).partCells ps.toList) fun l =>
   (∀ p∈l,p.1<n/\p.2.length=ti.size)/\K ((St.mk τ β ε π).put dst (.fl (l.foldl (fun rs p=>rs.set p.1 p.2) (List.replicate n z))))):=rfl
theorem NS (P:Program) (kind:FuncId->CK) (D:Option DI) (dst:Option Tmp) (K:St->Prop) (τ:Nat->AV) (β:Nat->BX) (ε:Nat->EN) (π:Nat->MP) (T:TypeId) (x:Operand):W P kind D dst K ⟨τ,β,ε,π⟩ (.load T x) =
  (aP (tinfo P T) fun ti=>(St.mk τ β ε π).wCells D ((St.mk τ β ε π).ev x) fun cs=>aP (ldv ti cs) fun iv=>K ((St.mk τ β ε π).put dst (.i iv))):=rfl
theorem K4 (P:Program) (kind:FuncId->CK) (D:Option DI) (dst:Option Tmp) (K:St->Prop) (τ:Nat->AV) (β:Nat->BX) (ε:Nat->EN) (π:Nat->MP) (op:BinOp) (T:TypeId) (x y:Operand) (U:TypeId):W P kind D dst K ⟨τ,β,ε,π⟩ (.binOp op T x y U) =
  (aP ((St.mk τ β ε π).ev x).pv fun a=>aP ((St.mk τ β ε π).ev y).pv fun b=>d7 P op T x y a b fun z=>K ((St.mk τ β ε π).put dst (sc z))):=rfl
theorem NO (P:Program) (kind:FuncId->CK) (D:Option DI) (dst:Option Tmp) (K:St->Prop) (τ:Nat->AV) (β:Nat->BX) (ε:Nat->EN) (π:Nat->MP) (op:UnOp) (T:TypeId) (x:Operand):W P kind D dst K ⟨τ,β,ε,π⟩ (.unOp op T x) =
  (aP ((St.mk τ β ε π).ev x).pv fun a=>wUn P op a fun z=>K ((St.mk τ β ε π).put dst (sc z))):=rfl
theorem Fa (P:Program) (kind:FuncId->CK) (D:Option DI) (dst:Option Tmp) (K:St->Prop) (τ:Nat->AV) (β:Nat->BX) (ε:Nat->EN) (π:Nat->MP) (s d:TypeId) (x:Operand):W P kind D dst K ⟨τ,β,ε,π⟩ (.convert s d x) =
  (aP ((St.mk τ β ε π).ev x).pv fun a=>B7 P s d a fun z=>K ((St.mk τ β ε π).put dst (sc z))):=rfl
theorem KX (P:Program) (kind:FuncId->CK) (D:Option DI) (dst:Option Tmp) (K:St->Prop) (τ:Nat->AV) (β:Nat->BX) (ε:Nat->EN) (π:Nat->MP) (T:TypeId) (x y:Operand):W P kind D dst K ⟨τ,β,ε,π⟩ (.index T x y) =
  (aP ((St.mk τ β ε π).ev x).pv fun a=>aP ((St.mk τ β ε π).ev y).pv fun b=>∃ z,dz P (Instr.index T a b) z/\z.oneCell'=true/\K ((St.mk τ β ε π).put dst (sc z))):=rfl
theorem E9 (P:Program) (kind:FuncId->CK) (D:Option DI) (dst:Option Tmp) (K:St->Prop) (τ:Nat->AV) (β:Nat->BX) (ε:Nat->EN) (π:Nat->MP) (x:Operand) (n:Nat):W P kind D dst K ⟨τ,β,ε,π⟩ (.extract x n) =
  (zY ((St.mk τ β ε π).ev x) fun xs=>aP xs[n]? fun y=>K ((St.mk τ β ε π).put dst (.i y))):=rfl
theorem KY (P:Program) (kind:FuncId->CK) (D:Option DI) (dst:Option Tmp) (K:St->Prop) (τ:Nat->AV) (β:Nat->BX) (ε:Nat->EN) (π:Nat->MP) (T:TypeId) (x:Operand) (f:Nat):W P kind D dst K ⟨τ,β,ε,π⟩ (.field T x f) =
  (aP (tinfo P T) fun ti=>aP ti.flds[f]? fun fd=>aP (tinfo P fd.2) fun tf=>Ak ((St.mk τ β ε π).ev x) fun cs=>aP (ldv tf (cs.drop fd.1)) fun iv=>K ((St.mk τ β ε π).put dst (.i iv))):=rfl
theorem zh (P:Program) (kind:FuncId->CK) (D:Option DI) (dst:Option Tmp) (K:St->Prop) (τ:Nat->AV) (β:Nat->BX) (ε:Nat->EN) (π:Nat->MP) (T:TypeId) (x:Operand) (f:Nat):W P kind D dst K ⟨τ,β,ε,π⟩ (.fieldAddr T x f) =
  (aP (tinfo P T) fun ti=>aP ti.flds[f]? fun fd=>aP (tinfo P fd.2) fun tf=>tf.size≠0/\(St.mk τ β ε π).wFA D fd.1 ((St.mk τ β ε π).ev x) fun v=>K ((St.mk τ β ε π).put dst v)):=rfl
theorem zg (P:Program) (kind:FuncId->CK) (D:Option DI) (dst:Option Tmp) (K:St->Prop) (τ:Nat->AV) (β:Nat->BX) (ε:Nat->EN) (π:Nat->MP) (T:TypeId) (x y:Operand):W P kind D dst K ⟨τ,β,ε,π⟩ (.indexAddr T x y) =
  (aP (tinfo P T) fun ti=>lJ ((St.mk τ β ε π).ev y) fun i=>St.wIA P (St.mk τ β ε π) D ti i ((St.mk τ β ε π).ev x) fun v=>K ((St.mk τ β ε π).put dst v)):=rfl
theorem KV (P:Program) (kind:FuncId->CK) (D:Option DI) (dst:Option Tmp) (K:St->Prop) (τ:Nat->AV) (β:Nat->BX) (ε:Nat->EN) (π:Nat->MP) (T:TypeId) (x:Operand) (lo hi mx:Option Operand):W P kind D dst K ⟨τ,β,ε,π⟩ (.slice T x lo hi mx) =
  (aP (tinfo P T) fun ti=>aP ti.elem fun e=>aP (tinfo P e) fun te=>pW D x ((St.mk τ β ε π).ev x)/\aP ((St.mk τ β ε π).len ((St.mk τ β ε π).ev x)) fun n =>
   (St.mk τ β ε π).wEnd lo 0 fun l=>(St.mk τ β ε π).wEnd hi n fun h=>(l<=h/\h<=n)/\Fw mx (nJ te l h ((St.mk τ β ε π).ev x) fun v=>K ((St.mk τ β ε π).put dst v))
    fun y=>hi≠none/\lJ ((St.mk τ β ε π).ev y) fun m=>m=h/\mS te l h ((St.mk τ β ε π).ev x) fun v=>K ((St.mk τ β ε π).put dst v)):=rfl
theorem zf (P:Program) (kind:FuncId->CK) (D:Option DI) (dst:Option Tmp) (K:St->Prop) (τ:Nat->AV) (β:Nat->BX) (ε:Nat->EN) (π:Nat->MP) (T:TypeId) (x y:Operand):W P kind D dst K ⟨τ,β,ε,π⟩ (.makeSlice T x y) =
  (aP dst fun d=>aP (eB P T) fun te=>aP (te.zero.map mkZ) fun z=>z.length=te.size/\lJ ((St.mk τ β ε π).ev x) fun n=>lJ ((St.mk τ β ε π).ev y) fun m=>(n<=m/\m*te.bytes<=140737488355328/\m<4611686018427387904) /\
   K ((St.mk τ β ε π).app (some d) { v := .sl d (((St.mk τ β ε π).e d).gen+1) n,ne:=some ⟨((St.mk τ β ε π).e d).gen+1,te.size,List.replicate n z,true,true⟩ })):=rfl
theorem KU (P:Program) (kind:FuncId->CK) (D:Option DI) (dst:Option Tmp) (K:St->Prop) (τ:Nat->AV) (β:Nat->BX) (ε:Nat->EN) (π:Nat->MP) (T:TypeId) (x y:Operand):W P kind D dst K ⟨τ,β,ε,π⟩ (.store T x y) =
  (D=none/\dst=none/\aP (tinfo P T) fun ti=>aP ((St.mk τ β ε π).toIV ((St.mk τ β ε π).ev y)) fun v=>v.cells.length=ti.size/\(St.mk τ β ε π).wStore ti.size v.cells ((St.mk τ β ε π).ev x) K):=rfl
theorem NT (P:Program) (kind:FuncId->CK) (D:Option DI) (dst:Option Tmp) (K:St->Prop) (τ:Nat->AV) (β:Nat->BX) (ε:Nat->EN) (π:Nat->MP) (c:Call):W P kind D dst K ⟨τ,β,ε,π⟩ (.call c) =
  (lM P kind D dst K (St.mk τ β ε π) c):=rfl
theorem DM (P:Program) (kind:FuncId->CK) (D:Option DI) (dst:Option Tmp) (K:St->Prop) (τ:Nat->AV) (β:Nat->BX) (ε:Nat->EN) (π:Nat->MP) (as':Array Operand) (ts:Array TypeId):lM P kind D dst K ⟨τ,β,ε,π⟩ ⟨.builtin .len,as',ts⟩ =
  jC as'.toList (fun x=>ff D ((St.mk τ β ε π).ev x)/\((ts[0]?).bind (tinfo P)).bind (·.elem)≠none/\aP ((St.mk τ β ε π).len ((St.mk τ β ε π).ev x)) fun n=>K ((St.mk τ β ε π).put dst (sc (.int .i64 n)))) fun _ _=>False:=rfl
theorem DL (P:Program) (kind:FuncId->CK) (D:Option DI) (dst:Option Tmp) (K:St->Prop) (τ:Nat->AV) (β:Nat->BX) (ε:Nat->EN) (π:Nat->MP) (as':Array Operand) (ts:Array TypeId):lM P kind D dst K ⟨τ,β,ε,π⟩ ⟨.builtin .max,as',ts⟩ =
  jC as'.toList (fun _=>False) fun x y=>wI2 ((St.mk τ β ε π).ev x) ((St.mk τ β ε π).ev y) fun k a b=>K ((St.mk τ β ε π).put dst (sc (.int k (max a b)))):=rfl
theorem DK (P:Program) (kind:FuncId->CK) (D:Option DI) (dst:Option Tmp) (K:St->Prop) (τ:Nat->AV) (β:Nat->BX) (ε:Nat->EN) (π:Nat->MP) (as':Array Operand) (ts:Array TypeId):lM P kind D dst K ⟨τ,β,ε,π⟩ ⟨.builtin .min,as',ts⟩ =
  jC as'.toList (fun _=>False) fun x y=>wI2 ((St.mk τ β ε π).ev x) ((St.mk τ β ε π).ev y) fun k a b=>K ((St.mk τ β ε π).put dst (sc (.int k (min a b)))):=rfl
theorem vG (P:Program) (kind:FuncId->CK) (D:Option DI) (dst:Option Tmp) (K:St->Prop) (τ:Nat->AV) (β:Nat->BX) (ε:Nat->EN) (π:Nat->MP) (as':Array Operand) (ts:Array TypeId):lM P kind D dst K ⟨τ,β,ε,π⟩ ⟨.builtin .append,as',ts⟩ =
  aP dst fun d=>jC as'.toList (fun _=>False) fun x y=>aP ts[0]? fun t=>aP ts[1]? fun u=>ts.size=2 /\
   aP (eB P t) fun te=>(tinfo P u).bind (·.elem)≠none/\aP te.zero fun z=>z.length=te.size/\0<te.size/\0<te.bytes /\
    aP ((St.mk τ β ε π).rows ((St.mk τ β ε π).ev y)) fun xs=>lens te.size xs/\me D ((St.mk τ β ε π).ev x).full/\(St.mk τ β ε π).wApp d te xs ((St.mk τ β ε π).ev y) ((St.mk τ β ε π).ev x).full K:=rfl
theorem xw (P:Program) (kind:FuncId->CK) (D:Option DI) (dst:Option Tmp) (K:St->Prop) (τ:Nat->AV) (β:Nat->BX) (ε:Nat->EN) (π:Nat->MP) (x:Operand) (as':Array Operand) (ts:Array TypeId):lM P kind D dst K ⟨τ,β,ε,π⟩ ⟨.value x,as',ts⟩ =
  mQ (eV kind x) (gr P kind D dst K (St.mk τ β ε π) (.call ⟨.value x,as',ts⟩) ⟨⟩) (aP (cx (St.mk τ β ε π) ⟨.value x,as',ts⟩) fun f=>(∀ x∈as'.toList,ff D ((St.mk τ β ε π).ev x))/\aP (dH (fun x=>(St.mk τ β ε π).toIV ((St.mk τ β ε π).ev x)) as'.toList) fun args =>
   uH (kind f) (wFn P f args (fun res=>K ((St.mk τ β ε π).put dst (rv res))) ⟨⟩)
    (aP dst fun d=>Fx (.value x) fun f'=>f'=f/\Mq P f args (fun sz rs=>K ((St.mk τ β ε π).app (some d) { v := .sl d (((St.mk τ β ε π).e d).gen+1) rs.length,ne:=some ⟨((St.mk τ β ε π).e d).gen+1,sz,rs,!rs.isEmpty,true⟩ })) ⟨⟩)) ⟨⟩:=rfl
theorem Ab (P:Program) (kind:FuncId->CK) (D:Option DI) (dst:Option Tmp) (K:St->Prop) (τ:Nat->AV) (β:Nat->BX) (ε:Nat->EN) (π:Nat->MP) (as':Array Operand) (ts:Array TypeId):lM P kind D dst K ⟨τ,β,ε,π⟩ ⟨.builtin .copy,as',ts⟩=gr P kind D dst K (St.mk τ β ε π) (.call ⟨.builtin .copy,as',ts⟩) ⟨⟩:=rfl
theorem E8 (P:Program) (kind:FuncId->CK) (D:Option DI) (dst:Option Tmp) (K:St->Prop) (τ:Nat->AV) (β:Nat->BX) (ε:Nat->EN) (π:Nat->MP) (T:TypeId) (x:Option Operand):W P kind D dst K ⟨τ,β,ε,π⟩ (.makeMap T x)=gr P kind D dst K (St.mk τ β ε π) (.makeMap T x) ⟨⟩:=rfl
theorem Im (P:Program) (kind:FuncId->CK) (D:Option DI) (dst:Option Tmp) (K:St->Prop) (τ:Nat->AV) (β:Nat->BX) (ε:Nat->EN) (π:Nat->MP) (T:TypeId) (x y:Operand) (c:Bool):W P kind D dst K ⟨τ,β,ε,π⟩ (.lookup T x y c)=gr P kind D dst K (St.mk τ β ε π) (.lookup T x y c) ⟨⟩:=rfl
theorem ze (P:Program) (kind:FuncId->CK) (D:Option DI) (dst:Option Tmp) (K:St->Prop) (τ:Nat->AV) (β:Nat->BX) (ε:Nat->EN) (π:Nat->MP) (T:TypeId) (x y z:Operand):W P kind D dst K ⟨τ,β,ε,π⟩ (.mapUpdate T x y z)=gr P kind D dst K (St.mk τ β ε π) (.mapUpdate T x y z) ⟨⟩:=rfl
theorem KW (P:Program) (kind:FuncId->CK) (D:Option DI) (dst:Option Tmp) (K:St->Prop) (τ:Nat->AV) (β:Nat->BX) (ε:Nat->EN) (π:Nat->MP) (T:TypeId) (x:Operand):W P kind D dst K ⟨τ,β,ε,π⟩ (.range T x)=gr P kind D dst K (St.mk τ β ε π) (.range T x) ⟨⟩:=rfl
theorem NQ (P:Program) (kind:FuncId->CK) (D:Option DI) (dst:Option Tmp) (K:St->Prop) (τ:Nat->AV) (β:Nat->BX) (ε:Nat->EN) (π:Nat->MP) (x:Operand) (c:Bool):W P kind D dst K ⟨τ,β,ε,π⟩ (.next x c)=gr P kind D dst K (St.mk τ β ε π) (.next x c) ⟨⟩:=rfl
theorem KZ (P:Program) (kind:FuncId->CK) (D:Option DI) (dst:Option Tmp) (K:St->Prop) (τ:Nat->AV) (β:Nat->BX) (ε:Nat->EN) (π:Nat->MP) (x:Operand):W P kind D dst K ⟨τ,β,ε,π⟩ (.entry x)=gr P kind D dst K (St.mk τ β ε π) (.entry x) ⟨⟩:=rfl
theorem BN (P:Program) (kind:FuncId->CK) (D:Option DI) (dst:Option Tmp) (K:St->Prop) (τ:Nat->AV) (β:Nat->BX) (ε:Nat->EN) (π:Nat->MP) (f:Go.Fn) (x y:Array Operand):W P kind D dst K ⟨τ,β,ε,π⟩ (.makeFunc f x y)=gr P kind D dst K (St.mk τ β ε π) (.makeFunc f x y) ⟨⟩:=rfl
theorem xS (kind:FuncId->CK) (f:FuncId):eV kind (.func f)=decide (kind f = .sem):=rfl
theorem xQ (kind:FuncId->CK) (t:Tmp):eV kind (.tmp t)=false:=rfl
theorem vA (A B:Prop):mQ true A B ⟨⟩=A:=rfl
theorem ur (A B:Prop):mQ false A B ⟨⟩=B:=rfl
theorem NN (P:Program) (kind:FuncId->CK) (D:Option DI) (ops:List Oper) (K:St->Prop) (τ:Nat->AV) (β:Nat->BX) (ε:Nat->EN) (π:Nat->MP):Ws P kind D ops [] K ⟨τ,β,ε,π⟩=K ⟨τ,β,ε,π⟩:=rfl
theorem KS (P:Program) (kind:FuncId->CK) (D:Option DI) (ops l:List Oper) (K:St->Prop) (τ:Nat->AV) (β:Nat->BX) (ε:Nat->EN) (π:Nat->MP) (dst:Option Tmp) (op:Op) (ty:TypeId) (pos:String) (aft:Array Edge) :
  Ws P kind D ops (⟨dst,op,ty,pos,aft,none⟩::l) K ⟨τ,β,ε,π⟩=W P kind D dst (Ws P kind D ops l K) ⟨τ,β,ε,π⟩ op:=rfl
theorem KR (P:Program) (kind:FuncId->CK) (D:Option DI) (ops l:List Oper) (K:St->Prop) (τ:Nat->AV) (β:Nat->BX) (ε:Nat->EN) (π:Nat->MP) (dst:Option Tmp) (op:Op) (ty:TypeId) (pos:String) (aft:Array Edge) (j:Nat) (want:Bool) :
  Ws P kind D ops (⟨dst,op,ty,pos,aft,some (j,want)⟩::l) K ⟨τ,β,ε,π⟩=aP ((ops[j]?).bind (·.dst)) fun d=>ja (τ d) want
    (W P kind D dst (Ws P kind D ops l K) (St.setT ⟨τ,β,ε,π⟩ d (sc (.bool want))) op)
    (Ws P kind D ops l K ((St.setT ⟨τ,β,ε,π⟩ d (sc (.bool !want))).put dst (.tup [])))
    (Ws P kind D ops l K (St.put ⟨τ,β,ε,π⟩ dst (.tup []))):=rfl
theorem KT (P:Program) (kind:FuncId->CK) (ops:List Oper) (K:St->Prop) (τ:Nat->AV) (β:Nat->BX) (ε:Nat->EN) (π:Nat->MP):WsF P kind ops [] K ⟨τ,β,ε,π⟩=K ⟨τ,β,ε,π⟩:=rfl
theorem Il (P:Program) (kind:FuncId->CK) (ops l:List Oper) (K:St->Prop) (τ:Nat->AV) (β:Nat->BX) (ε:Nat->EN) (π:Nat->MP) (dst:Option Tmp) (op:Op) (ty:TypeId) (pos:String) (aft:Array Edge) :
  WsF P kind ops (⟨dst,op,ty,pos,aft,none⟩::l) K ⟨τ,β,ε,π⟩=W P kind none dst (WsF P kind ops l K) (bE kind op ⟨τ,β,ε,π⟩) op:=rfl
theorem Ik (P:Program) (kind:FuncId->CK) (ops l:List Oper) (K:St->Prop) (τ:Nat->AV) (β:Nat->BX) (ε:Nat->EN) (π:Nat->MP) (dst:Option Tmp) (op:Op) (ty:TypeId) (pos:String) (aft:Array Edge) (j:Nat) (want:Bool) :
  WsF P kind ops (⟨dst,op,ty,pos,aft,some (j,want)⟩::l) K ⟨τ,β,ε,π⟩=aP ((ops[j]?).bind (·.dst)) fun d=>ja (τ d) want
    (W P kind none dst (WsF P kind ops l K) (bE kind op (St.setT ⟨τ,β,ε,π⟩ d (sc (.bool want)))) op)
    (WsF P kind ops l K ((St.setT ⟨τ,β,ε,π⟩ d (sc (.bool !want))).put dst (.tup [])))
    (WsF P kind ops l K (St.put ⟨τ,β,ε,π⟩ dst (.tup []))):=rfl
section
variable (kind:FuncId->CK) (st:St)
theorem En (x:Operand):bE kind (.move x) st=st:=rfl
theorem x6 (x:Operand):bE kind (.assign x) st=st:=rfl
theorem El (x y z:Operand):bE kind (.pick x y z) st=st:=rfl
theorem AK (T:TypeId):bE kind (.alloc T) st=st:=rfl
theorem GA (T:TypeId) (x:Operand):bE kind (.box T x) st=ux (st.ev x) st:=rfl
theorem AI (T:TypeId) (ps:List (Nat×Operand)):bE kind (.build T ⟨ps⟩) st=frzs (ps.map (·.2)) st:=rfl
theorem qU (T:TypeId) (n:Nat) (ps:List (Nat×Operand)):bE kind (.buildSlice T n ⟨ps⟩) st=frzs (ps.map (·.2)) st:=rfl
theorem Eo (T:TypeId) (x:Operand):bE kind (.load T x) st=st:=rfl
theorem AJ (op:BinOp) (T:TypeId) (x y:Operand) (U:TypeId):bE kind (.binOp op T x y U) st=st:=rfl
theorem Ek (op:UnOp) (T:TypeId) (x:Operand):bE kind (.unOp op T x) st=st:=rfl
theorem wh (s d:TypeId) (x:Operand):bE kind (.convert s d x) st=st:=rfl
theorem AF (T:TypeId) (x y:Operand):bE kind (.index T x y) st=st:=rfl
theorem v7 (x:Operand) (n:Nat):bE kind (.extract x n) st=st:=rfl
theorem AG (T:TypeId) (x:Operand) (f:Nat):bE kind (.field T x f) st=st:=rfl
theorem sv (T:TypeId) (x:Operand) (f:Nat):bE kind (.fieldAddr T x f) st=st:=rfl
theorem su (T:TypeId) (x y:Operand):bE kind (.indexAddr T x y) st=st:=rfl
theorem AD (T:TypeId) (x:Operand) (l h m:Option Operand):bE kind (.slice T x l h m) st=st:=rfl
theorem ss (T:TypeId) (x y:Operand):bE kind (.makeSlice T x y) st=st:=rfl
theorem AC (T:TypeId) (x y:Operand):bE kind (.store T x y) st=ux (st.ev y) st:=rfl
theorem x5 (b:Builtin) (as':Array Operand) (ts:Array TypeId):bE kind (.call ⟨.builtin b,as',ts⟩) st=st:=rfl
theorem xZ (x:Operand) (as':List Operand) (ts:Array TypeId):bE kind (.call ⟨.value x,⟨as'⟩,ts⟩) st=frzs (bif eV kind x then[]else as') st:=rfl
theorem v6 (T:TypeId) (x:Option Operand):bE kind (.makeMap T x) st=st:=rfl
theorem xY (T:TypeId) (x y:Operand) (c:Bool):bE kind (.lookup T x y c) st=st:=rfl
theorem sj (T:TypeId) (x y z:Operand):bE kind (.mapUpdate T x y z) st=st:=rfl
theorem AE (T:TypeId) (x:Operand):bE kind (.range T x) st=st:=rfl
theorem Em (x:Operand) (c:Bool):bE kind (.next x c) st=st:=rfl
theorem AH (x:Operand):bE kind (.entry x) st=st:=rfl
theorem uu (f:Go.Fn) (x y:Array Operand):bE kind (.makeFunc f x y) st=st:=rfl
theorem HK:frzs [] st=st:=rfl
theorem EQ (x:Operand) (l:List Operand):frzs (x::l) st=frzs l (ux (st.ev x) st):=rfl
theorem Nn (x:IV):ux (.i x) st=st:=rfl
theorem Kr (x:List (List C)):ux (.fl x) st=st:=rfl
theorem HL (x:List IV):ux (.tup x) st=st:=rfl
theorem Kq (t g n:Nat):ux (.sl t g n) st=st.freeze t:=rfl
end
theorem Lr (P:Program) (kind:FuncId->CK) (Q:aK->St->Prop) (τ:Nat->AV) (β:Nat->BX) (ε:Nat->EN) (π:Nat->MP):CW P kind .skip Q ⟨τ,β,ε,π⟩=Q .normal ⟨τ,β,ε,π⟩:=rfl
theorem N7 (P:Program) (kind:FuncId->CK) (Q:aK->St->Prop) (τ:Nat->AV) (β:Nat->BX) (ε:Nat->EN) (π:Nat->MP) (id:Nat) (l:List Oper):CW P kind (.region id ⟨l⟩ false) Q ⟨τ,β,ε,π⟩=WsF P kind l l (Q .normal) ⟨τ,β,ε,π⟩:=rfl
theorem Lu (P:Program) (kind:FuncId->CK) (Q:aK->St->Prop) (τ:Nat->AV) (β:Nat->BX) (ε:Nat->EN) (π:Nat->MP) (id:Nat) (l:List Oper):CW P kind (.region id ⟨l⟩ true) Q ⟨τ,β,ε,π⟩=uJ P kind l (Q .normal) ⟨τ,β,ε,π⟩ ⟨⟩:=rfl
theorem N5 (P:Program) (kind:FuncId->CK) (Q:aK->St->Prop) (τ:Nat->AV) (β:Nat->BX) (ε:Nat->EN) (π:Nat->MP) (x y:Code):CW P kind (.seq x y) Q ⟨τ,β,ε,π⟩=CW P kind x (ii (CW P kind y Q) Q) ⟨τ,β,ε,π⟩:=rfl
theorem Lv (P:Program) (kind:FuncId->CK) (Q:aK->St->Prop) (τ:Nat->AV) (β:Nat->BX) (ε:Nat->EN) (π:Nat->MP) (c:Operand) (x y:Code):CW P kind (.cond c x y) Q ⟨τ,β,ε,π⟩ =
  ou (St.ev ⟨τ,β,ε,π⟩ c) fun b=>wIf b (CW P kind x Q ⟨τ,β,ε,π⟩) (CW P kind y Q ⟨τ,β,ε,π⟩) ⟨⟩:=rfl
theorem I9 (P:Program) (kind:FuncId->CK) (Q:aK->St->Prop) (τ:Nat->AV) (β:Nat->BX) (ε:Nat->EN) (π:Nat->MP) (id:Nat) (x:Code):CW P kind (.block id x) Q ⟨τ,β,ε,π⟩=CW P kind x (lf id Q) ⟨τ,β,ε,π⟩:=rfl
theorem Ls (P:Program) (kind:FuncId->CK) (Q:aK->St->Prop) (τ:Nat->AV) (β:Nat->BX) (ε:Nat->EN) (π:Nat->MP) (x:Code):CW P kind (.loop x) Q ⟨τ,β,ε,π⟩=lI P kind x Q ⟨τ,β,ε,π⟩ ⟨⟩:=rfl
theorem Lt (P:Program) (kind:FuncId->CK) (Q:aK->St->Prop) (τ:Nat->AV) (β:Nat->BX) (ε:Nat->EN) (π:Nat->MP) (id:Nat):CW P kind (.exit id) Q ⟨τ,β,ε,π⟩=Q (.exit id) ⟨τ,β,ε,π⟩:=rfl
theorem N6 (P:Program) (kind:FuncId->CK) (Q:aK->St->Prop) (τ:Nat->AV) (β:Nat->BX) (ε:Nat->EN) (π:Nat->MP):CW P kind .ret Q ⟨τ,β,ε,π⟩=Q .ret ⟨τ,β,ε,π⟩:=rfl
theorem I7 (P:Program) (kind:FuncId->CK) (Q:aK->St->Prop) (τ:Nat->AV) (β:Nat->BX) (ε:Nat->EN) (π:Nat->MP) (x:Code):CW P kind (.scope x) Q ⟨τ,β,ε,π⟩=CW P kind x Q ⟨τ,β,ε,π⟩:=rfl
theorem I8 (P:Program) (kind:FuncId->CK) (Q:aK->St->Prop) (τ:Nat->AV) (β:Nat->BX) (ε:Nat->EN) (π:Nat->MP) (l:Nat):CW P kind (.label l) Q ⟨τ,β,ε,π⟩=Q .normal ⟨τ,β,ε,π⟩:=rfl
def JB (P:Program) (β:Nat->BX) (T:TypeId) (v:AV):Option IV :=
 match v with
 | .bp t g off=>bif Nat.blt 0 g && Nat.beq (β t).gen g then(tinfo P T).bind fun ti=>ldv ti ((β t).cs.drop off)else none
 | _=>none
theorem JC (P:Program) (p:Tmp) (T:TypeId) (τ:Nat->AV) (β:Nat->BX) (ε:Nat->EN) (π:Nat->MP):St.res1 P ⟨τ,β,ε,π⟩ (.cell p T)=JB P β T (τ p):=by
 simp only[St.res1,JB];cases tinfo P T<;>cases τ p<;>simp
theorem JA (P:Program) (β:Nat->BX) (T:TypeId) (t g off:Nat) (h1:(β t).gen=g) (h2:0<g):JB P β T (.bp t g off)=(tinfo P T).bind fun ti=>ldv ti ((β t).cs.drop off):=by
 have hb:Nat.blt 0 g=true:=by simpa using h2
 simp[JB,h1,hb]
theorem Ji (b:Bool) (K:Bool->Prop):ou (.i (.c (.v (.bool b)))) K=K b:=rfl
theorem Oc (k k':IntKind) (a b:Int) (K:IntKind->Int->Int->Prop):wI2 (.i (.c (.v (.int k a)))) (.i (.c (.v (.int k' b)))) K=(k=k'/\K k a b):=rfl
theorem Ml (xs:List IV) (K:List IV->Prop):zY (.tup xs) K=K xs:=rfl
theorem Mu (xs:List C) (K:List C->Prop):Ak (.i (.g xs)) K=K xs:=rfl
theorem Jk (x:Operand) (K1:Operand->Prop) (K2:Operand->Operand->Prop):jC [x] K1 K2=K1 x:=rfl
theorem Jj (x y:Operand) (K1:Operand->Prop) (K2:Operand->Operand->Prop):jC [x,y] K1 K2=K2 x y:=rfl
theorem Fv (k:IntKind) (K:IntKind->Prop):Oa (.int k) K=K k:=rfl
theorem Dw (k:IntKind) (n:Int) (K:Int->Prop):LC (.int k n) K=K n:=rfl
theorem Fy (A B:Prop):uH .fn A B=A:=rfl
theorem xp (A B:Prop):uH .fresh A B=B:=rfl
theorem Mm (f:FuncId) (K:FuncId->Prop):Fx (.value (.func f)) K=K f:=rfl
theorem Dt (A:Prop) (B:Operand->Prop):Fw none A B=A:=rfl
theorem Ds (y:Operand) (A:Prop) (B:Operand->Prop):Fw (some y) A B=B y:=rfl
theorem xu (b:Bool) (A B C:Prop):ja (.i (.c (.v (.bool b)))) true A B C=wIf b A B ⟨⟩:=rfl
theorem vD (b:Bool) (A B C:Prop):ja (.i (.c (.v (.bool b)))) false A B C=wIf b B A ⟨⟩:=rfl
theorem FG (w:Bool) (A B C:Prop):ja (.tup []) w A B C=C:=rfl
theorem FD (A B:Prop):wIf true A B ⟨⟩=A:=by simp[wIf]
theorem Dx (A B:Prop):wIf false A B ⟨⟩=B:=by simp[wIf]
theorem FE (b:Bool) (A B:Prop):wIf (!b) A B ⟨⟩=wIf b B A ⟨⟩:=by cases b<;>simp[wIf]
theorem DU (P:Program) (ps:List (Nat×Operand)):FX P none ps=True:=rfl
theorem DT (P:Program) (x:Nat×TypeId) (ps:List (Nat×Operand)):FX P (some x) ps=(ps=[]/\tinfo P x.2≠none):=rfl
theorem AP (x:IV) (t:Nat):oI (.i x) t=True:=rfl
theorem x9 (x:List (List C)) (t:Nat):oI (.fl x) t=True:=rfl
theorem DG (st:St) (D:Option DI) (l:List C) (K:List C->Prop):st.wCells D (.ip l) K=K l:=rfl
theorem DJ (st:St) (D:Option DI) (t g off:Nat) (K:List C->Prop):st.wCells D (.bp t g off) K=(((st.b t).gen=g/\0<g/\okB D t)/\K ((st.b t).cs.drop off)):=rfl
theorem DH (st:St) (D:Option DI) (t g idx off:Nat) (K:List C->Prop):st.wCells D (.ep t g idx off) K=(((st.e t).gen=g/\0<g/\okE D t)/\nL (st.e t).rs idx fun r=>K (r.drop off)):=rfl
theorem Ko (rs:List (List C)):(AV.fl rs).full = .fl rs:=rfl
theorem Kn (t g l:Nat):(AV.sl t g l).full = .sl t g l:=rfl
theorem HJ:(AV.i (.c (.v (.slice none 0 0)))).full = .fl []:=rfl
theorem JV:mkZ [.lst []]=[.v (.slice none 0 0)]:=rfl
theorem OM (x:Value):mkZ [.v x]=[.v x]:=rfl
theorem JT (a b:C) (l:List C):mkZ (a::b::l)=a::b::l:=by unfold mkZ;split<;>simp_all
theorem Gt (τ:Nat->AV) (β:Nat->BX) (ε:Nat->EN) (π:Nat->MP) (k:Nat):(St.mk τ β ε π).relax k=⟨τ,β,upd ε k { ε k with rs:=(ε k).rs.map (·.map l5) },π⟩:=rfl
attribute [go_sem] Option.map_some Ko Kn HJ JV OM JT Gt
theorem Jm (st:St) (d:Nat) (te:TI) (xs rs:List (List C)) (y:AV) (K:St->Prop):st.wApp d te xs y (.fl rs) K=(lens te.size rs/\(rs.length+xs.length)*te.bytes<=140737488355328 /\
  K (st.app (some d) { v := .sl d ((st.e d).gen+1) (rs.length+xs.length),ne:=some ⟨(st.e d).gen+1,te.size,rs++xs,!xs.isEmpty,true⟩ })):=rfl
theorem Jl (st:St) (d:Nat) (te:TI) (xs:List (List C)) (t g len:Nat) (y:AV) (K:St->Prop):st.wApp d te xs y (.sl t g len) K =
  (((st.e t).gen=g/\0<g/\(st.e t).app=true/\len=(st.e t).rs.length/\te.size=(st.e t).sz/\d≠t)/\(len+xs.length)*te.bytes<=140737488355328/\oI y t /\
   K (st.app (some d) { v := .sl d ((st.e d).gen+1) (len+xs.length),ne:=some ⟨(st.e d).gen+1,te.size,(st.e t).rs++xs,(st.e t).m || !xs.isEmpty,true⟩,kill:=some t })):=rfl
theorem Mr (st:St) (D:Option DI) (o:Nat) (cs:List C) (K:AV->Prop):st.wFA D o (.ip cs) K=(o<=cs.length/\K (.ip (cs.drop o))):=rfl
theorem Mt (st:St) (D:Option DI) (o t g off:Nat) (K:AV->Prop):st.wFA D o (.bp t g off) K=(((st.b t).gen=g/\0<g/\okB D t)/\K (.bp t g (off+o))):=rfl
theorem Ms (st:St) (D:Option DI) (o t g i off:Nat) (K:AV->Prop):st.wFA D o (.ep t g i off) K=(((st.e t).gen=g/\0<g/\okE D t)/\K (.ep t g i (off+o))):=rfl
theorem Jh (P:Program) (st:St) (D:Option DI) (ti:TI) (i:Nat) (rs:List (List C)) (K:AV->Prop):St.wIA P st D ti i (.i (.c (.lst rs))) K=aP (ti.elem.bind (tinfo P)) fun te=>nL rs i fun r=>r.length=te.size/\K (.ip r):=rfl
theorem Mn (P:Program) (st:St) (D:Option DI) (ti:TI) (i t g len:Nat) (K:AV->Prop):St.wIA P st D ti i (.sl t g len) K =
  aP (ti.elem.bind (tinfo P)) fun te=>((st.e t).gen=g/\0<g/\okE D t/\te.size=(st.e t).sz)/\i<len/\K (.ep t g i 0):=rfl
theorem Mp (P:Program) (st:St) (D:Option DI) (ti:TI) (i t g off:Nat) (K:AV->Prop):St.wIA P st D ti i (.bp t g off) K =
  aP ti.arr fun a=>aP (tinfo P a.2) fun te=>((st.b t).gen=g/\0<g/\okB D t)/\i<a.1/\K (.bp t g (off+i*te.size)):=rfl
theorem Mo (P:Program) (st:St) (D:Option DI) (ti:TI) (i:Nat) (cs:List C) (K:AV->Prop):St.wIA P st D ti i (.ip cs) K =
  aP ti.arr fun a=>aP (tinfo P a.2) fun te=>i<a.1/\i*te.size<=cs.length/\K (.ip (cs.drop (i*te.size))):=rfl
theorem zZ (te:TI) (l h:Nat) (rs:List (List C)) (K:AV->Prop):nJ te l h (.i (.c (.lst rs))) K=(lens te.size rs/\K (.i (.c (.lst ((rs.take h).drop l))))):=rfl
theorem Dq (te:TI) (l h t g n:Nat) (K:AV->Prop):nJ te l h (.sl t g n) K=(if l=0 then K (.sl t g h)else l<h/\K (.sub t g l (h-l) te.size)):=rfl
theorem xo (te:TI) (l h:Nat) (rs:List (List C)) (K:AV->Prop):mS te l h (.i (.c (.lst rs))) K=(lens te.size rs/\K (.fl ((rs.take h).drop l))):=rfl
theorem Dp (st:St) (n:Nat) (cs:List C) (t g off:Nat) (K:St->Prop):st.wStore n cs (.bp t g off) K=(((st.b t).gen=g/\0<g)/\off+n<=(st.b t).cs.length/\K (st.setB t ⟨g,cf (st.b t).cs off cs⟩)):=rfl
theorem Do (st:St) (n:Nat) (cs:List C) (t g i off:Nat) (K:St->Prop):st.wStore n cs (.ep t g i off) K=(((st.e t).gen=g/\0<g/\(st.e t).m=true)/\nL (st.e t).rs i fun r=>off+n<=r.length /\
  K (st.setE t { st.e t with rs:=(st.e t).rs.set i (cf r off cs) })):=rfl
theorem ET (pl:List (Nat×Nat)) (cs:List C):lv pl cs []=some cs:=by simp[lv]
theorem Bi (pl:List (Nat×Nat)) (cs xs:List C) (i:Nat) (l:List (Nat×List C)):lv pl cs ((i,xs)::l)=(pl[i]?).bind fun p=>if xs.length=p.2/\p.1+xs.length<=cs.length then lv pl (cf cs p.1 xs) l else none:=by
 cases h:pl[i]?<;>simp[lv,h]
theorem Ih:uE []=some []:=rfl
theorem NM (x:Value) (l:List C):uE (.v x::l)=(uE l).map (x :: ·):=rfl
theorem KK (x:C):IV.cells (.c x)=[x]:=rfl
theorem KJ (xs:List C):IV.cells (.g xs)=xs:=rfl
theorem rv_1 (x:IV):rv [x] = .i x:=rfl
theorem rv_2 (x y:IV) (l:List IV):rv (x::y::l) = .tup (x::y::l):=rfl
theorem rv_0:rv [] = .tup []:=rfl
theorem H8 (st:St) (f:FuncId) (xs:Array Operand) (ts:Array TypeId):cx st ⟨.value (.func f),xs,ts⟩=some f:=by simp[cx,St.ev]
theorem Jf (P:Program) (b:Bool) (K:Value->Prop):wUn P .not (.bool b) K=K (.bool !b):=rfl
theorem Jg (P:Program) (k:IntKind) (n:Int) (K:Value->Prop):wUn P .neg (.int k n) K=nK k (0-n) K:=rfl
theorem xB (P:Program) (T:TypeId) (x y:Operand) (k k':IntKind) (a b:Int) (K:Value->Prop):d7 P .shl T x y (.int k a) (.int k' b) K=(0<=b/\K (.int k (k.wrap (a*2 ^ (min b.toNat k.bits))))):=rfl
theorem j0 (P:Program) (T:TypeId) (x y:Operand) (k k':IntKind) (a b:Int) (K:Value->Prop):d7 P .shr T x y (.int k a) (.int k' b) K=(0<=b/\K (.int k (a.fdiv (2 ^ (min b.toNat k.bits))))):=rfl
theorem Ae (P:Program) (T:TypeId) (x y:Operand) (k':IntKind) (a:Int) (K:Value->Prop):d7 P .shr T x y (.int .u64 a) (.int k' 32) K=K (.int .u64 (a/4294967296)):=by
 have e1:(min (32:Int).toNat (IntKind.bits .u64))=32:=by decide
 have e2:a.fdiv (2 ^ 32)=a/4294967296:=by rw[Int.fdiv_eq_ediv_of_nonneg _ (by decide)];rfl
 rw[j0,e1,e2];simp
theorem Ag (P:Program) (T:TypeId) (x y:Operand) (k':IntKind) (a:Int) (K:Value->Prop):d7 P .shl T x y (.int .u64 a) (.int k' 32) K=K (.int .u64 ((a*4294967296) % 18446744073709551616)):=by
 have e1:(min (32:Int).toNat (IntKind.bits .u64))=32:=by decide
 rw[xB,e1,lG];simp
theorem FV (P:Program) (T:TypeId) (x y:Operand) (k k':IntKind) (a b:Int) (K:Value->Prop):d7 P .add T x y (.int k a) (.int k' b) K=(k=k'/\nK k (a+b) K):=rfl
theorem FI (P:Program) (T:TypeId) (x y:Operand) (k k':IntKind) (a b:Int) (K:Value->Prop):d7 P .sub T x y (.int k a) (.int k' b) K=(k=k'/\nK k (a-b) K):=rfl
theorem FO (P:Program) (T:TypeId) (x y:Operand) (k k':IntKind) (a b:Int) (K:Value->Prop):d7 P .mul T x y (.int k a) (.int k' b) K=(k=k'/\nK k (a*b) K):=rfl
theorem FK (P:Program) (T:TypeId) (x y:Operand) (k k':IntKind) (a b:Int) (K:Value->Prop):d7 P .quo T x y (.int k a) (.int k' b) K=(k=k'/\b≠0/\nK k (a.tdiv b) K):=rfl
theorem FJ (P:Program) (T:TypeId) (x y:Operand) (k k':IntKind) (a b:Int) (K:Value->Prop):d7 P .rem T x y (.int k a) (.int k' b) K=(k=k'/\b≠0/\K (.int k (a.tmod b))):=rfl
theorem rL (P:Program) (T:TypeId) (x y:Operand) (k k':IntKind) (a b:Int) (K:Value->Prop):d7 P .and T x y (.int k a) (.int k' b) K=(k=k'/\K (.int k (k.wrap (BitVec.ofInt k.bits a &&& BitVec.ofInt k.bits b).toNat))):=rfl
theorem vH (P:Program) (T:TypeId) (x y:Operand) (k k':IntKind) (a b:Int) (K:Value->Prop):d7 P .or T x y (.int k a) (.int k' b) K=(k=k'/\K (.int k (k.wrap (BitVec.ofInt k.bits a ||| BitVec.ofInt k.bits b).toNat))):=rfl
theorem xA (P:Program) (T:TypeId) (x y:Operand) (k k':IntKind) (a b:Int) (K:Value->Prop):d7 P .xor T x y (.int k a) (.int k' b) K=(k=k'/\K (.int k (k.wrap (BitVec.ofInt k.bits a ^^^ BitVec.ofInt k.bits b).toNat))):=rfl
theorem FT (P:Program) (T:TypeId) (x y:Operand) (k k':IntKind) (a b:Int) (K:Value->Prop):d7 P .eql T x y (.int k a) (.int k' b) K=(k=k'/\K (.bool (decide (a=b)))):=rfl
theorem FL (P:Program) (T:TypeId) (x y:Operand) (k k':IntKind) (a b:Int) (K:Value->Prop):d7 P .neq T x y (.int k a) (.int k' b) K=(k=k'/\K (.bool (!decide (a=b)))):=rfl
theorem FP (P:Program) (T:TypeId) (x y:Operand) (k k':IntKind) (a b:Int) (K:Value->Prop):d7 P .lss T x y (.int k a) (.int k' b) K=(k=k'/\K (.bool (decide (a<b)))):=rfl
theorem FQ (P:Program) (T:TypeId) (x y:Operand) (k k':IntKind) (a b:Int) (K:Value->Prop):d7 P .leq T x y (.int k a) (.int k' b) K=(k=k'/\K (.bool (decide (a<=b)))):=rfl
theorem FR (P:Program) (T:TypeId) (x y:Operand) (k k':IntKind) (a b:Int) (K:Value->Prop):d7 P .gtr T x y (.int k a) (.int k' b) K=(k=k'/\K (.bool (decide (b<a)))):=rfl
theorem FS (P:Program) (T:TypeId) (x y:Operand) (k k':IntKind) (a b:Int) (K:Value->Prop):d7 P .geq T x y (.int k a) (.int k' b) K=(k=k'/\K (.bool (decide (b<=a)))):=rfl
theorem FU (P:Program) (T:TypeId) (x y:Operand) (a b:Bool) (K:Value->Prop):d7 P .eql T x y (.bool a) (.bool b) K=(P.underlying T=some .bool/\K (.bool (a == b))):=rfl
theorem FM (P:Program) (T:TypeId) (x y:Operand) (a b:Bool) (K:Value->Prop):d7 P .neq T x y (.bool a) (.bool b) K=(P.underlying T=some .bool/\K (.bool (!(a == b)))):=rfl
theorem HO {α:Type} (p:α->Prop):(∀ x∈([]:List α),p x)=True:=by simp
def uq (I:Nat->(Nat->AV)->(Nat->BX)->(Nat->EN)->Prop) (n:Nat) (s:St):Prop:=∃ m τ β ε π,aY s ⟨τ,β,ε,π⟩/\m<n/\I m τ β ε
theorem again {I:Nat->(Nat->AV)->(Nat->BX)->(Nat->EN)->Prop} {n:Nat} (m:Nat) {τ:Nat->AV} {β:Nat->BX} {ε:Nat->EN} {π:Nat->MP} (hm:m<n) (h:I m τ β ε):uq I n ⟨τ,β,ε,π⟩:=⟨m,τ,β,ε,π,aY.refl _,hm,h⟩
theorem tO {I:Nat->(Nat->AV)->(Nat->BX)->(Nat->EN)->Prop} {n:Nat} (m:Nat) {s:St} {τ:Nat->AV} {β:Nat->BX} {ε:Nat->EN} {π:Nat->MP} (hw:aY s ⟨τ,β,ε,π⟩) (hm:m<n) (h:I m τ β ε):uq I n s:=⟨m,τ,β,ε,π,hw,hm,h⟩
theorem AX {P:Program} {kind:FuncId->CK} {c:Code} {Q:aK->St->Prop} (I:Nat->(Nat->AV)->(Nat->BX)->(Nat->EN)->Prop) (n:Nat) {τ:Nat->AV} {β:Nat->BX} {ε:Nat->EN} {π:Nat->MP}
  (h0:I n τ β ε) (round:∀ n τ β ε π,I n τ β ε->CW P kind c (ii (uq I n) Q) ⟨τ,β,ε,π⟩):lI P kind c Q ⟨τ,β,ε,π⟩ ⟨⟩ :=
 WP.loop (fun n s=>I n s.t s.b s.e) ⟨_,aY.refl _,h0⟩ fun n s h=>(br c (round n s.t s.b s.e s.p h)).mono fun e s' hs=>by
  cases e with
  | normal =>
   obtain⟨m,τ,β,ε,π,hw,hm,hI⟩:=hs;exact⟨⟨τ,β,ε,π⟩,m,hw,hm,hI⟩
  | exit id=>exact hs
  | ret=>exact hs
def JY (Mid:aK->(Nat->AV)->(Nat->BX)->(Nat->EN)->Prop) (e:aK) (s:St):Prop:=Mid e s.t s.b s.e
theorem JX (Mid:aK->(Nat->AV)->(Nat->BX)->(Nat->EN)->Prop) (e:aK) (τ:Nat->AV) (β:Nat->BX) (ε:Nat->EN) (π:Nat->MP):JY Mid e ⟨τ,β,ε,π⟩=Mid e τ β ε:=rfl
theorem jh {P:Program} {kind:FuncId->CK} {c:Code} {Q:aK->St->Prop} (I:Nat->(Nat->AV)->(Nat->BX)->(Nat->EN)->Prop) (Mid:aK->(Nat->AV)->(Nat->BX)->(Nat->EN)->Prop) (n:Nat)
  {τ:Nat->AV} {β:Nat->BX} {ε:Nat->EN} {π:Nat->MP} (h0:I n τ β ε) (round:∀ n τ β ε π,I n τ β ε->CW P kind c (ii (uq I n) (JY Mid)) ⟨τ,β,ε,π⟩)
  (fin:∀ e τ β ε π,Mid e τ β ε->Q e ⟨τ,β,ε,π⟩):lI P kind c Q ⟨τ,β,ε,π⟩ ⟨⟩ :=
 WP.mono (AX (kind:=kind) I n h0 round) fun e s hs=>fin e s.t s.b s.e s.p hs
attribute [congr] z6 z7 xz Dz zX Aj vF z8 Ai xq DC Dy vC us vB vE K0
attribute [go_sem] HO JX Nu L3 JC JA decide_true decide_false DU DT AP x9 ET Bi Ih NM KK KJ rv_1 rv_2 rv_0 H8
attribute [go_sem] NR In NP K5 Pn K3 wW NS K4 NO Fa KX E9 KY zh zg KV zf KU NT DM DL DK vG xw Ab E8 Im ze KW NQ KZ BN xS xQ
attribute [go_sem] KT Il Ik En x6 El AK GA AI qU Eo AJ Ek wh AF v7 AG sv su AD ss AC x5 xZ v6 xY sj AE Em AH uu HK EQ Nn Kr HL Kq
attribute [go_sem] NN KS KR Lr N7 Lu N5 Lv I9 Ls Lt N6 I7 I8
attribute [go_sem] sc B7 bz Nr HP Kv Bz yX By Gy KN KM Ie pv_v pv_g MC Jq Jp Gk Jz Jy J4 Na M9 OX Nq Np Gq AS JK GS GR GT Eu GJ GI ME yb Es GO GL GN GK J7 J6 Kg A6 A7 EK Ki Kh oC Ju Jt ES t_mk b_mk e_mk G7 EB Hf EG lG lH Je eB St.partCells cf List.getElem?_cons_zero List.getElem?_cons_succ List.getElem?_nil List.drop_succ_cons List.drop_zero List.drop_nil List.take_succ_cons List.take_zero List.take_nil List.length_cons List.length_nil af List.map_cons List.map_nil List.append_nil List.nil_append List.cons_append List.foldl_cons List.foldl_nil List.getElem?_map List.getElem?_toArray List.forall_mem_cons List.all_cons List.all_nil Option.bind_some Option.map_some Option.bind_none Option.map_none cond_true cond_false Bool.not_true Bool.not_false Bool.true_and Bool.false_and Bool.and_true Bool.and_false Bool.true_or Bool.false_or Bool.or_true Bool.or_false if_true if_false true_and and_true or_true true_or false_or or_false false_and and_false true_implies false_implies implies_true ne_eq not_true not_false_iff reduceCtorEq Nat.zero_add Nat.add_zero Nat.zero_lt_succ ae forall_const Bool.true_eq_false Bool.false_eq_true eq_self Nat.sub_self Nat.zero_le Nat.mul_zero Nat.zero_mul
attribute [go_sem ↓] Ae Ag vA ur Dr FF xr DE DD FC Fz FA Ji Oc Ml Mu Jk Jj Fv Dw Fy xp Mm Dt Ds xu vD FG FD Dx FE DG DJ DH Jm Jl Mr Mt Ms Jh Mn Mp Mo zZ Dq xo Dp Do Jf Jg FV FI FO FK FJ rL vH xA FT FL FP FQ FR FS FU FM DA DB FH iu Ap D2 gN y6 BH
end Go.AM
namespace Go.AM
open Go.Proofs
def inR:List (Nat×Nat)->Nat->Bool
 | [],_=>false
 | (a,b)::l,n=>decide (a<=n) && decide (n<=b) || inR l n
theorem Kj (n:Nat):inR [] n=false:=rfl
theorem Hv (a b:Nat) (l:List (Nat×Nat)) (n:Nat):inR ((a,b)::l) n=(decide (a<=n) && decide (n<=b) || inR l n):=rfl
def Kp {α:Type} (A:List (Nat×Nat)) (f g:Nat->α):Prop:=∀ n,inR A n=false->g n=f n
theorem Kp.refl {α:Type} (A:List (Nat×Nat)) (f:Nat->α):Kp A f f:=fun _ _=>rfl
theorem sV {α:Type} (A:List (Nat×Nat)) (f g:Nat->α) (d:Nat) (v:α) (h:inR A d=true):Kp A f (upd g d v)=Kp A f g:=by
 refine propext ⟨fun k n hn=>?_,fun k n hn=>?_⟩
 ·have:=k n hn;rw[bz]at this;split at this
  ·rename_i e;subst e;rw[h]at hn;simp at hn
  ·exact this
 ·rw[bz];split
  ·rename_i e;subst e;rw[h]at hn;simp at hn
  ·exact k n hn
theorem Kp.step {α:Type} {A A':List (Nat×Nat)} {f g h:Nat->α} (k:Kp A' g h) (hs:∀ n,inR A n=false->inR A' n=false) (k':Kp A f g):Kp A f h:=fun n hn=>(k n (hs n hn)).trans (k' n hn)
theorem Kp.step2 {α:Type} {A A':List (Nat×Nat)} {f g0 g h:Nat->α} (k0:Kp A f g0) (k:Kp A' g h) (hs:∀ n,inR A n=false->inR A' n=false) (e:Kp A f g):Kp A f h:=fun n hn=>(k n (hs n hn)).trans (e n hn)
theorem aH {P:Program} {kind:FuncId->CK} {c:Code} {Q:aK->St->Prop} (A B E:List (Nat×Nat)) (I:Nat->(Nat->AV)->(Nat->BX)->(Nat->EN)->Prop) (Mid:aK->(Nat->AV)->(Nat->BX)->(Nat->EN)->Prop) (n:Nat)
  {τ0:Nat->AV} {β0:Nat->BX} {ε0:Nat->EN} {π0:Nat->MP} (h0:I n τ0 β0 ε0)
  (round:∀ n τ β ε π,Kp A τ0 τ->Kp B β0 β->Kp E ε0 ε->I n τ β ε->CW P kind c (ii (uq (fun n τ β ε=>Kp A τ0 τ/\Kp B β0 β/\Kp E ε0 ε/\I n τ β ε) n) (JY (fun e τ β ε=>Kp A τ0 τ/\Kp B β0 β/\Kp E ε0 ε/\Mid e τ β ε))) ⟨τ,β,ε,π⟩)
  (fin:∀ e τ β ε π,Kp A τ0 τ->Kp B β0 β->Kp E ε0 ε->Mid e τ β ε->Q e ⟨τ,β,ε,π⟩):lI P kind c Q ⟨τ0,β0,ε0,π0⟩ ⟨⟩ :=
 jh (fun n τ β ε=>Kp A τ0 τ/\Kp B β0 β/\Kp E ε0 ε/\I n τ β ε) (fun e τ β ε=>Kp A τ0 τ/\Kp B β0 β/\Kp E ε0 ε/\Mid e τ β ε) n ⟨Kp.refl _ _,Kp.refl _ _,Kp.refl _ _,h0⟩
  (fun n τ β ε π h=>round n τ β ε π h.1 h.2.1 h.2.2.1 h.2.2.2) (fun e τ β ε π h=>fin e τ β ε π h.1 h.2.1 h.2.2.1 h.2.2.2)
theorem aX {P:Program} {kind:FuncId->CK} {c:Code} {Q:aK->St->Prop} (A B E:List (Nat×Nat)) (I:Nat->(Nat->AV)->(Nat->BX)->(Nat->EN)->Prop) (Mid:aK->(Nat->AV)->(Nat->BX)->(Nat->EN)->Prop) (n:Nat)
  {τ0:Nat->AV} {β0:Nat->BX} {ε0:Nat->EN} {π0:Nat->MP} (h0:I n τ0 β0 ε0)
  (round:∀ n τ β ε π,Kp A τ0 τ->Kp B β0 β->Kp E ε0 ε->I n τ β ε->CW P kind c (ii (uq (fun n τ β ε=>Kp A τ0 τ/\Kp B β0 β/\Kp E ε0 ε/\I n τ β ε) n) (JY (fun e τ β ε=>Kp A τ0 τ/\Kp B β0 β/\Kp E ε0 ε/\Mid e τ β ε))) ⟨τ,β,ε,π⟩)
  (fin:∀ e τ β ε π,Kp A τ0 τ->Kp B β0 β->Kp E ε0 ε->Mid e τ β ε->∃ s',aY ⟨τ,β,ε,π⟩ s'/\Q e s'):lI P kind c Q ⟨τ0,β0,ε0,π0⟩ ⟨⟩ :=
 WP.post (jh (Q:=fun e s=>∃ s',aY s s'/\Q e s') (fun n τ β ε=>Kp A τ0 τ/\Kp B β0 β/\Kp E ε0 ε/\I n τ β ε) (fun e τ β ε=>Kp A τ0 τ/\Kp B β0 β/\Kp E ε0 ε/\Mid e τ β ε) n ⟨Kp.refl _ _,Kp.refl _ _,Kp.refl _ _,h0⟩
  (fun n τ β ε π h=>round n τ β ε π h.1 h.2.1 h.2.2.1 h.2.2.2) (fun e τ β ε π h=>fin e τ β ε π h.1 h.2.1 h.2.2.1 h.2.2.2))
attribute [go_sem] sV Kj Hv List.contains_nil List.contains_cons
attribute [go_sem] reduceIte Nat.reduceEqDiff Nat.reduceAdd Nat.reduceMul Nat.reduceLT Nat.reduceLeDiff Nat.reduceSub Nat.reduceBEq
end Go.AM
namespace Go.AM
open Go.Proofs
def kd (f:FuncId):CK:=if f=67 then .fresh else if f=161 then .fresh else if f=242 then .fresh else if f=248 then .fresh else if f=62 then .fresh else if f=89 then .fresh else if f=255 then .fresh else if f=155 then .sem else if f=157 then .sem else if f=197 then .sem else if f=77 then .sem else if f=95 then .sem else if f=256 then .sem else if f=117 then .sem else if f=136 then .sem else if f=258 then .sem else .fn
theorem OR (f:FuncId):kd f=if f=67 then .fresh else if f=161 then .fresh else if f=242 then .fresh else if f=248 then .fresh else if f=62 then .fresh else if f=89 then .fresh else if f=255 then .fresh else if f=155 then .sem else if f=157 then .sem else if f=197 then .sem else if f=77 then .sem else if f=95 then .sem else if f=256 then .sem else if f=117 then .sem else if f=136 then .sem else if f=258 then .sem else .fn:=rfl
def bc (d:Int):List C:=[.v (.int .u32 d)]
def km (neg:Bool) (mag:List Int):List C:=[.v (.bool neg),.lst (mag.map bc)]
abbrev aB (b:Bool):AV := .i (.c (.v (.bool b)))
abbrev aI (n:Int):AV := .i (.c (.v (.int .i64 n)))
abbrev aL (l:List Int):AV := .i (.c (.lst (l.map bc)))
theorem CT (d:Int):bc d=[.v (.int .u32 d)]:=rfl
theorem Gf (l:List Int) (i:Nat) (d:Int):(l.map bc).set i [.v (.int .u32 d)]=(l.set i d).map bc:=by rw[List.map_set,CT]
theorem If (l:List Int) (d:Int):l.map bc++[[.v (.int .u32 d)]]=(l++[d]).map bc:=by simp[bc]
theorem EF (l:List Int):lens 1 (l.map bc)=True:=by simp[lens,bc]
attribute [go_sem] OR km CT EF Gf If List.length_take List.map_take List.map_drop
theorem K7 (neg:Bool) (mag:List Int):Fn Tryz.prog 187 [.g (km neg mag)] [.c (.v (.int .i64 (if mag.length=0 then 0 else if neg then -1 else 1)))]:=by
 refine ao kd (fn:=Tryz.f187) (by rfl) rfl rfl rfl (by rfl) (by simp) (by rfl) ?_;simp -dsimp -implicitDefEqProofs only[go_sem];refine aO (fun h=>?_) (fun h=>?_)<;>simp -dsimp -implicitDefEqProofs only[go_sem]
 ·simp at h;simp[h]
 ·refine jY (fun h'=>?_) (fun h'=>?_)<;>simp -dsimp -implicitDefEqProofs only[go_sem]
  ·simp at h;simp[h,h']
  ·simp at h;simp[h,h']
theorem NY (neg:Bool) (mag:List Int):Fn Tryz.prog 207 [.g (km neg mag)] [.g (km (!neg && decide (0<mag.length)) mag)]:=by
 refine ao kd (fn:=Tryz.f207) (by rfl) rfl rfl rfl (by rfl) (by simp) (by rfl) ?_;simp -dsimp -implicitDefEqProofs only[go_sem];refine jY (fun h=>?_) (fun h=>?_)<;>simp -dsimp -implicitDefEqProofs only[go_sem]
 all_goals simp[h]
def trim:List Int->List Int
 | []=>[]
 | d::l=>if trim l=[]/\d=0 then[]else d::trim l
theorem fR:∀(l:List Int),trim (l++[0])=trim l
 | []=>by simp[trim]
 | d::l=>by simp[trim,fR l]
theorem pF:∀(l:List Int) (d:Int),d≠0->trim (l++[d])=l++[d]
 | [],d,h=>by simp[trim,h]
 | x::l,d,h=>by simp[trim,pF l d h]
theorem rQ {α:Type} {l:List α} {n:Nat} (h:n<l.length):l.take (n+1)=l.take n++[l[n]]:=by
 rw[ab h]
theorem JI (neg:Bool) (mag:List Int) (hm:mag.length<4611686018427387904):Fn Tryz.prog 182 [.c (.lst (mag.map bc)),.c (.v (.bool neg))] [.g (km (neg && decide (0<(trim mag).length)) (trim mag))]:=by
 refine ao kd (fn:=Tryz.f182) (by rfl) rfl rfl rfl (by rfl) (by simp) (by rfl) ?_;simp -dsimp -implicitDefEqProofs only[go_sem];refine jh (fun n τ β _=>n<=mag.length/\trim mag=trim (mag.take n)/\τ 0=aL mag/\τ 1=aB neg/\τ 4 = .bp 4 1 0/\τ 5=aI n/\β 4=⟨1,km false []⟩)
  (fun e τ β _=>e = .exit 0/\∃ n:Nat,n<=mag.length/\trim mag=mag.take n/\τ 0=aL mag/\τ 1=aB neg/\τ 4 = .bp 4 1 0/\τ 5=aI n/\β 4=⟨1,km false []⟩) mag.length ?_ ?_ ?_
 ·simp -dsimp -implicitDefEqProofs only[go_sem];simp
 ·rintro n τ β ε π ⟨h1,h2,h3,h4,h5,h6,h7⟩;simp -dsimp -implicitDefEqProofs only[go_sem,h3,h4,h5,h6,h7];have hI:((n:Int)-1).toNat=n-1:=by omega
  refine aO (fun h=>?_) (fun h=>?_)<;>simp -dsimp -implicitDefEqProofs only[go_sem,h3,h4,h5,h6,h7]
  ·refine⟨by omega,by omega,ay (by omega) ?_⟩;simp -dsimp -implicitDefEqProofs only[go_sem,h3,h4,h5,h6,h7];have hs:mag.take n=mag.take (n-1)++[mag[n-1]]:=by
    conv=>lhs;rw[show n=n-1+1 from by omega]
    rw[rQ (by omega)]
   refine aO (fun hz=>?_) (fun hz=>?_)<;>simp -dsimp -implicitDefEqProofs only[go_sem,h3,h4,h5,h6,h7]
   ·refine⟨by omega,again (n-1) (by omega) ⟨by omega,?_,?_⟩⟩
    ·rw[h2,hs];simp only[hI]at hz;rw[hz,fR]
    ·simp -dsimp -implicitDefEqProofs only[go_sem,h3,h4,h5,h6,h7];simp;omega
   ·refine⟨n,h1,?_,rfl⟩;rw[h2,hs];simp only[hI]at hz;exact pF _ _ hz
  ·refine⟨n,h1,?_,rfl⟩;rw[h2,show n=0 from by omega];simp[trim]
 ·rintro e τ β ε π ⟨rfl,n,h1,h2,h3,h4,h5,h6,h7⟩;simp -dsimp -implicitDefEqProofs only[go_sem,h3,h4,h5,h6,h7];refine jY (fun h=>?_) (fun h=>?_)<;>simp -dsimp -implicitDefEqProofs only[go_sem,h3,h4,h5,h6,h7]
  all_goals simp[h2,h]
  all_goals omega
end Go.AM
namespace Go.AM
open Go.Proofs
def Dig (l:List Int):Prop:=∀ d∈l,0<=d/\d<4294967296
def val:List Int->Int
 | []=>0
 | d::l=>d+4294967296*val l
theorem Dig.nil:Dig []:=by simp[Dig]
theorem Dig.cons {d:Int} {l:List Int}:Dig (d::l)↔(0<=d/\d<4294967296)/\Dig l:=by simp[Dig]
theorem Dig.get {l:List Int} (h:Dig l) {i:Nat} (hi:i<l.length):0<=l[i]/\l[i]<4294967296:=h _ (List.getElem_mem hi)
theorem Dig.take {l:List Int} (h:Dig l) (n:Nat):Dig (l.take n):=fun d hd=>h d (List.mem_of_mem_take hd)
theorem Dig.drop {l:List Int} (h:Dig l) (n:Nat):Dig (l.drop n):=fun d hd=>h d (List.mem_of_mem_drop hd)
theorem Dig.append {l l':List Int} (h:Dig l) (h':Dig l'):Dig (l++l'):=fun d hd=>(List.mem_append.1 hd).elim (h d) (h' d)
theorem Dig.set {l:List Int} (h:Dig l) {i:Nat} {d:Int} (hd:0<=d/\d<4294967296):Dig (l.set i d):=fun x hx=>(List.mem_or_eq_of_mem_set hx).elim (h x) (fun e=>e ▸ hd)
theorem Dig.replicate (n:Nat):Dig (List.replicate n 0):=fun d hd=>by rw[(List.mem_replicate.1 hd).2];omega
theorem aQ:∀{l:List Int},Dig l->0<=val l
 | [],_=>by simp[val]
 | d::l,h=>by
  rw[Dig.cons]at h;have:=aQ h.2;simp only[val];omega
theorem dC:∀{l:List Int},Dig l->val l<4294967296 ^ l.length
 | [],_=>by simp[val]
 | d::l,h=>by
  rw[Dig.cons]at h;have:=dC h.2;simp only[val,List.length_cons,Int.pow_succ];omega
theorem gy:∀(l l':List Int),val (l++l')=val l+4294967296 ^ l.length*val l'
 | [],l'=>by simp[val]
 | d::l,l'=>by
  simp only[List.cons_append,val,gy l l',List.length_cons,Int.pow_succ];rw[Int.mul_add];have:(4294967296:Int)*(4294967296 ^ l.length*val l')=4294967296 ^ l.length*4294967296*val l':=by rw[<-Int.mul_assoc,Int.mul_comm 4294967296]
  omega
theorem jP (n:Nat):val (List.replicate n 0)=0:=by
 induction n with
 | zero=>rfl
 | succ n ih=>simp[List.replicate_succ,val,ih]
theorem bU (n:Nat):(0:Int)<4294967296 ^ n:=Int.pow_pos (by decide)
theorem eP {l:List Int} {i:Nat} (h:i<l.length):val l=val (l.take i)+4294967296 ^ i*(l[i]+4294967296*val (l.drop (i+1))):=by
 conv=>lhs;rw[<-List.take_append_drop i l]
 rw[gy,List.drop_eq_getElem_cons h];simp only[val,List.length_take,Nat.min_eq_left (Nat.le_of_lt h)]
theorem rO:∀(l:List Int),val (trim l)=val l
 | []=>rfl
 | d::l=>by
  unfold trim;split
  ·rename_i h;have:=rO l;rw[h.1]at this;simp only[val]at this ⊢;omega
  ·simp only[val,rO l]
theorem xD:∀{l:List Int},Dig l->Dig (trim l)
 | [],h=>h
 | d::l,h=>by
  rw[Dig.cons]at h;unfold trim;split
  ·exact Dig.nil
  ·exact Dig.cons.2 ⟨h.1,xD h.2⟩
theorem uK:∀(l:List Int),trim (trim l)=trim l
 | []=>rfl
 | d::l=>by
  have ih:=uK l;have e:trim (d::l)=if trim l=[]/\d=0 then[]else d::trim l:=rfl
  rw[e];split
  ·rfl
  ·rename_i h;have e':trim (d::trim l)=if trim (trim l)=[]/\d=0 then[]else d::trim (trim l):=rfl
   rw[e',ih,if_neg h]
theorem B9:∀(l:List Int),(trim l).length<=l.length
 | []=>ae _
 | d::l=>by
  have:=B9 l;unfold trim;split<;>simp;omega
def Tr (l:List Int):Prop:=trim l=l
theorem Tr.tail {d:Int} {l:List Int} (h:Tr (d::l)):Tr l:=by
 have e:trim (d::l)=if trim l=[]/\d=0 then[]else d::trim l:=rfl
 unfold Tr at h ⊢;rw[e]at h;split at h
 ·simp at h
 ·exact(List.cons.inj h).2
theorem nO:∀{l:List Int},Dig l->Tr l->l≠[]->4294967296 ^ (l.length-1)<=val l
 | [d],h,ht,_=>by
  rw[Dig.cons]at h;have:d≠0:=by rintro rfl;simp[Tr,trim]at ht
  simp[val];omega
 | d::e::l,h,ht,_=>by
  rw[Dig.cons]at h;have:=nO h.2 ht.tail (by simp);simp only[List.length_cons,Nat.add_sub_cancel]at this ⊢;rw[Int.pow_succ];have e1:val (d::e::l)=d+4294967296*val (e::l):=rfl;rw[e1];omega
theorem kJ {a b:Nat} (h:a<=b):(4294967296:Int) ^ a<=4294967296 ^ b:=by
 obtain⟨c,rfl⟩:=Nat.exists_eq_add_of_le h;rw[Int.pow_add];have h1:=bU a;have h2:=bU c;have:(4294967296:Int) ^ a*1<=4294967296 ^ a*4294967296 ^ c:=Int.mul_le_mul_of_nonneg_left (by omega) (by omega);omega
theorem uL:∀{a b:List Int},Dig a->Dig b->Tr a->Tr b->val a=val b->a=b
 | [],[],_,_,_,_,_=>rfl
 | [],d::l,_,hb,_,tb,h=>by
  have h1:=nO hb tb (by simp);have h2:=bU ((d::l).length-1);rw[<-h]at h1;simp only[val]at h1;omega
 | d::l,[],ha,_,ta,_,h=>by
  have h1:=nO ha ta (by simp);have h2:=bU ((d::l).length-1);rw[h]at h1;simp only[val]at h1;omega
 | d::l,e::m,ha,hb,ta,tb,h=>by
  have ha':=Dig.cons.1 ha;have hb':=Dig.cons.1 hb;simp only[val]at h;have h1:d=e:=by omega
  have h2:val l=val m:=by omega
  rw[h1,uL ha'.2 hb'.2 ta.tail tb.tail h2]
def limbs (n:Nat):List Int:=if h:n=0 then[]else((n % 4294967296:Nat):Int)::limbs (n/4294967296)
termination_by n
decreasing_by exact Nat.div_lt_self (Nat.pos_of_ne_zero h) (by decide)
theorem kf (n:Nat):val (limbs n)=n:=by
 induction n using Nat.strongRecOn with
 | _ n ih =>
  unfold limbs;split
  ·rename_i h;simp[val,h]
  ·rename_i h;have:=ih (n/4294967296) (Nat.div_lt_self (Nat.pos_of_ne_zero h) (by decide));simp only[val,this];omega
theorem mZ (n:Nat):Dig (limbs n):=by
 induction n using Nat.strongRecOn with
 | _ n ih =>
  unfold limbs;split
  ·exact Dig.nil
  ·rename_i h;exact Dig.cons.2 ⟨by omega,ih _ (Nat.div_lt_self (Nat.pos_of_ne_zero h) (by decide))⟩
theorem oS {n:Nat} (h:limbs n=[]):n=0:=by
 have:=kf n;rw[h]at this;simp[val]at this;omega
theorem sN (n:Nat):Tr (limbs n):=by
 induction n using Nat.strongRecOn with
 | _ n ih =>
  unfold limbs;split
  ·rfl
  ·rename_i h;have:=ih (n/4294967296) (Nat.div_lt_self (Nat.pos_of_ne_zero h) (by decide));unfold Tr trim;rw[this,if_neg];rintro ⟨h1,h2⟩;have:=oS h1;omega
theorem Hb {l:List Int} (h:Dig l):trim l=limbs (val l).toNat:=by
 refine uL (xD h) (mZ _) (uK l) (sN _) ?_;rw[rO,kf,Int.toNat_of_nonneg (aQ h)]
theorem EE {n k:Nat} (h:n<4294967296 ^ k):(limbs n).length<=k:=by
 rcases Nat.lt_or_ge k (limbs n).length with h1|h1
 ·have hne:limbs n≠[]:=by intro e;rw[e]at h1;simp at h1
  have h2:=nO (mZ n) (sN n) hne;rw[kf]at h2;have h3:(4294967296:Int) ^ k<=4294967296 ^ ((limbs n).length-1):=kJ (by omega);have h4:((4294967296 ^ k:Nat):Int)=(4294967296:Int) ^ k:=by simp
  omega
 ·exact h1
theorem Hc (n:Nat):n<4294967296 ^ (limbs n).length:=by
 have:=dC (mZ n);rw[kf]at this;have h4:((4294967296 ^ (limbs n).length:Nat):Int)=(4294967296:Int) ^ (limbs n).length:=by simp
 omega
end Go.AM
namespace Go.AM
open Go.Proofs
theorem oV (x:Int):Fn Tryz.prog 206 [.c (.v (.int .i64 x))] [.c (.v (.bool false))]:=by
 refine ao kd (fn:=Tryz.f206) (by rfl) rfl rfl rfl (by rfl) (by simp) (by rfl) ?_;simp -dsimp -implicitDefEqProofs only[go_sem]
theorem oU (x:Int):Fn Tryz.prog 245 [.c (.v (.int .u32 x))] [.c (.v (.bool false))]:=by
 refine ao kd (fn:=Tryz.f245) (by rfl) rfl rfl rfl (by rfl) (by simp) (by rfl) ?_;simp -dsimp -implicitDefEqProofs only[go_sem]
theorem gX {a b:Int} (h:a=b):aI a=aI b:=by rw[h]
def ef (x y:Int):Int:=if x<y then -1 else if y<x then 1 else 0
theorem eM (x y:Int):Fn Tryz.prog 183 [.c (.v (.int .i64 x)),.c (.v (.int .i64 y))] [.c (.v (.int .i64 (ef x y)))]:=by
 refine ao kd (fn:=Tryz.f183) (by rfl) rfl rfl rfl (by rfl) (by simp) (by rfl) ?_;simp -dsimp -implicitDefEqProofs only[go_sem];refine am (oV x) ?_;simp -dsimp -implicitDefEqProofs only[go_sem];refine am (oV y) ?_;simp -dsimp -implicitDefEqProofs only[go_sem];refine aO (fun h=>?_) (fun h=>?_)<;>simp -dsimp -implicitDefEqProofs only[go_sem]
 ·simp[ef,h]
 ·refine aO (fun h=>?_) (fun h=>?_)<;>simp -dsimp -implicitDefEqProofs only[go_sem]<;>simp[ef, *]
theorem uo (x y:Int):Fn Tryz.prog 225 [.c (.v (.int .u32 x)),.c (.v (.int .u32 y))] [.c (.v (.int .i64 (ef x y)))]:=by
 refine ao kd (fn:=Tryz.f225) (by rfl) rfl rfl rfl (by rfl) (by simp) (by rfl) ?_;simp -dsimp -implicitDefEqProofs only[go_sem];refine am (oU x) ?_;simp -dsimp -implicitDefEqProofs only[go_sem];refine am (oU y) ?_;simp -dsimp -implicitDefEqProofs only[go_sem];refine aO (fun h=>?_) (fun h=>?_)<;>simp -dsimp -implicitDefEqProofs only[go_sem]
 ·simp[ef,h]
 ·refine aO (fun h=>?_) (fun h=>?_)<;>simp -dsimp -implicitDefEqProofs only[go_sem]<;>simp[ef, *]
theorem cS {x y:Int}:ef x y=0↔x=y:=by unfold ef;split<;>(try split)<;>omega
theorem rB {a b:List Int} (ha:Dig a) (hb:Dig b) (tb:Tr b) (h:a.length<b.length):val a<val b:=by
 have h1:=dC ha;have h2:=nO hb tb (by intro e;simp[e]at h);have h3:=kJ (a:=a.length) (b:=b.length-1) (by omega);omega
theorem wK {a b:List Int} (ha:Dig a) (hb:Dig b) {i:Nat} (hi:i<a.length) (hi':i<b.length) (hd:a.drop (i+1)=b.drop (i+1)) (h:a[i]<b[i]):val a<val b:=by
 rw[eP hi,eP hi',hd];have h1:=dC (ha.take i);have h2:=aQ (hb.take i);simp only[List.length_take,Nat.min_eq_left (Nat.le_of_lt hi)]at h1;have h3:=bU i;have h4:(4294967296:Int) ^ i*(a[i]+4294967296*val (b.drop (i+1))+1)<=4294967296 ^ i*(b[i]+4294967296*val (b.drop (i+1))):=Int.mul_le_mul_of_nonneg_left (by omega) (by omega);rw[Int.mul_add _ _ 1,Int.mul_one]at h4;omega
theorem BA (a b:List Int) (ha:Dig a) (hb:Dig b) (ta:Tr a) (tb:Tr b) (hl:a.length<4611686018427387904):Fn Tryz.prog 211 [.c (.lst (a.map bc)),.c (.lst (b.map bc))] [.c (.v (.int .i64 (ef (val a) (val b))))]:=by
 refine ao kd (fn:=Tryz.f211) (by rfl) rfl rfl rfl (by rfl) (by simp) (by rfl) ?_;simp -dsimp -implicitDefEqProofs only[go_sem];refine am (eM _ _) ?_;simp -dsimp -implicitDefEqProofs only[go_sem];refine aO (fun h=>?_) (fun h=>?_)<;>simp -dsimp -implicitDefEqProofs only[go_sem]
 ·have hlen:a.length=b.length:=by simp[cS]at h;omega
  refine⟨by omega,?_⟩;refine jh (fun n τ β _=>n<=a.length/\a.drop n=b.drop n/\τ 0=aL a/\τ 1=aL b/\τ 6=aI ((n:Int)-1))
   (fun e τ β _=>(e = .exit 0/\a=b)\/(e = .ret/\τ 4=aI (ef (val a) (val b)))) a.length ?_ ?_ ?_
  ·simp -dsimp -implicitDefEqProofs only[go_sem];simp[hlen]
  ·rintro n τ β ε π ⟨h1,h2,h3,h4,h5⟩;simp -dsimp -implicitDefEqProofs only[go_sem,h3,h4,h5];refine aO (fun h=>?_) (fun h=>?_)<;>simp -dsimp -implicitDefEqProofs only[go_sem,h3,h4,h5]
   ·have hn:((n:Int)-1).toNat=n-1:=by omega
    refine an (by rfl) 10 [] false true (by rfl) (by rfl) (by decide +kernel) ?_;simp -dsimp -implicitDefEqProofs only[go_sem,h3,h4,h5];refine⟨by omega,ay (by omega) ?_⟩;simp -dsimp -implicitDefEqProofs only[go_sem,h3,h4,h5];refine⟨by omega,ay (by omega) ?_⟩;simp -dsimp -implicitDefEqProofs only[go_sem,h3,h4,h5];refine am (uo _ _) ?_;simp -dsimp -implicitDefEqProofs only[go_sem,h3,h4,h5];simp only[hn];have d1:a.drop (n-1)=a[n-1]::a.drop n:=by rw[List.drop_eq_getElem_cons (by omega)];congr 2;omega
    have d2:b.drop (n-1)=b[n-1]::b.drop n:=by rw[List.drop_eq_getElem_cons (by omega)];congr 2;omega
    refine aO (fun hz=>?_) (fun hz=>?_)<;>simp -dsimp -implicitDefEqProofs only[go_sem,h3,h4,h5]
    ·refine⟨by omega,again (n-1) (by omega) ⟨by omega,?_,?_⟩⟩
     ·rw[d1,d2,h2,cS.1 hz]
     ·simp -dsimp -implicitDefEqProofs only[go_sem,h3,h4];exact gX (by omega)
    ·have e1:n-1+1=n:=by omega
     refine gX ?_;rcases Int.lt_trichotomy a[n-1] b[n-1]with h6|h6|h6
     ·have:=wK ha hb (i:=n-1) (by omega) (by omega) (by rw[e1];exact h2) h6;simp[ef,h6,this]
     ·exact absurd (cS.2 h6) hz
     ·have:=wK hb ha (i:=n-1) (by omega) (by omega) (by rw[e1];exact h2.symm) h6;simp[ef,h6,this,Int.not_lt.2 (Int.le_of_lt this),Int.not_lt.2 (Int.le_of_lt h6)]
   ·have:n=0:=by omega
    subst this;simpa using h2
  ·rintro e τ β ε π (⟨rfl,rfl⟩|⟨rfl,h⟩)
   ·simp -dsimp -implicitDefEqProofs only[go_sem];simp[ef]
   ·simp -dsimp -implicitDefEqProofs only[go_sem,h]
 ·rcases Nat.lt_trichotomy a.length b.length with h1|h1|h1
  ·have:=rB ha hb tb h1;simp[ef,this,h1]
  ·simp[ef,h1]at h
  ·have:=rB hb ha ta h1;simp[ef,this,h1,Int.not_lt.2 (Int.le_of_lt this),Nat.not_lt.2 (Nat.le_of_lt h1)]
end Go.AM
