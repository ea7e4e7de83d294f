/- Lemmas, part 11 of 23. No condition. -/
import Derived.Test.YtcmfkhicjhliaaaGreatPZ509
set_option maxRecDepth 65536
set_option linter.unusedSimpArgs false
set_option linter.unusedVariables false
set_option linter.unusedSectionVars false
namespace Go.AM
open Go.Proofs
theorem RF (e:Ex):e.cs=[.v (.int .i64 e.a),.v (.int .i64 e.b),.v (.int .i64 e.c),.v (.int .i64 e.d)]:=(rfl)
attribute [go_sem] RF
abbrev iE (e:Ex):IV := .g e.cs
theorem qr (e f:Ex):cp e f=if e.d≠f.d then fv e.d f.d else if e.c≠f.c then fv e.c f.c else if e.b≠f.b then fv e.b f.b else fv e.a f.a:=rfl
theorem GI (x:Int):fv x x=0:=dG.2 rfl
theorem sC (e f:Ex):Fn Tryz.prog 148 [iE e,iE f] [iN (cp e f)]:=by
 refine aJ (fn:=Tryz.f148) ?_;simp -dsimp only[go_sem];refine a8 [(4,20)] [] [] (fun n τ β _=>n<=4/\τ 5=aI ((n:Int)-1)/\(n<=3->e.d=f.d)/\(n<=2->e.c=f.c)/\(n<=1->e.b=f.b)/\(n<=0->e.a=f.a))
  (fun x τ β _=>x = .exit 0/\cp e f=0\/x = .ret/\τ 4=aI (cp e f)) 4 ?_ ?_ ?_
 ·exact⟨ay _,rfl,aw,aw,aw,aw⟩
 ·rintro n τ β ε π hK hKB hKE ⟨hn,h5,h1,h2,h3,h4⟩;have k2:τ 2 = .bp 2 1 0:=hK 2 aH;have k3:τ 3 = .bp 3 1 0:=hK 3 aH;have b2:β 2=⟨1,e.cs⟩:=hKB 2 aH;have b3:β 3=⟨1,f.cs⟩:=hKB 3 aH;obtain rfl|rfl|rfl|rfl|rfl:n=0\/n=1\/n=2\/n=3\/n=4:=aw
  ·replace h5:τ 5=aI (-1):=h5
   have e0:decide ((0:Int) <= -1)=false:=rfl;simp -dsimp only[go_sem,h5,e0];refine⟨(aA hK),hKB,hKE,?_⟩;rw[qr,h1 aw,h2 aw,h3 aw,h4 aw];simp[GI]
  ·replace h5:τ 5=aI 0:=h5
   have e0:decide ((0:Int)<=0)=true:=rfl;simp -dsimp only[go_sem,h5,k2,k3,b2,b3,e0];refine ap 8 [] false true ?_;simp -dsimp only[go_sem,h5,k2,k3,b2,b3,Int.reduceToNat,Int.reduceLE,true_and];refine aK (fM _ _) ?_;simp -dsimp only[go_sem,h5,k2,k3,b2,b3,Int.reduceToNat,Int.reduceLE,true_and];refine bi (fun h=>?_) (fun h=>?_)
   ·simp -dsimp only[go_sem,h5]
    repeat(refine And.intro aw ?_)
    refine again 0 aw ⟨(aA hK),hKB,hKE,aw,rfl,fun _=>h1 aw,fun _=>h2 aw,fun _=>h3 aw,fun _=>dG.1 h⟩
   ·simp -dsimp only[go_sem];refine⟨(aA hK),hKB,hKE,ja ?_⟩;rw[qr,h1 aw,h2 aw,h3 aw];simp
  ·replace h5:τ 5=aI 1:=h5
   have e0:decide ((0:Int)<=1)=true:=rfl;simp -dsimp only[go_sem,h5,k2,k3,b2,b3,e0];refine ap 8 [] false true ?_;simp -dsimp only[go_sem,h5,k2,k3,b2,b3,Int.reduceToNat,Int.reduceLE,true_and];refine aK (fM _ _) ?_;simp -dsimp only[go_sem,h5,k2,k3,b2,b3,Int.reduceToNat,Int.reduceLE,true_and];refine bi (fun h=>?_) (fun h=>?_)
   ·simp -dsimp only[go_sem,h5]
    repeat(refine And.intro aw ?_)
    refine again 1 aw ⟨(aA hK),hKB,hKE,aw,rfl,fun _=>h1 aw,fun _=>h2 aw,fun _=>dG.1 h,aw⟩
   ·simp -dsimp only[go_sem];refine⟨(aA hK),hKB,hKE,ja ?_⟩;have h':e.b≠f.b:=fun e=>h (dG.2 e);rw[qr,h1 aw,h2 aw];simp[h']
  ·replace h5:τ 5=aI 2:=h5
   have e0:decide ((0:Int)<=2)=true:=rfl;simp -dsimp only[go_sem,h5,k2,k3,b2,b3,e0];refine ap 8 [] false true ?_;simp -dsimp only[go_sem,h5,k2,k3,b2,b3,Int.reduceToNat,Int.reduceLE,true_and];refine aK (fM _ _) ?_;simp -dsimp only[go_sem,h5,k2,k3,b2,b3,Int.reduceToNat,Int.reduceLE,true_and];refine bi (fun h=>?_) (fun h=>?_)
   ·simp -dsimp only[go_sem,h5]
    repeat(refine And.intro aw ?_)
    refine again 2 aw ⟨(aA hK),hKB,hKE,aw,rfl,fun _=>h1 aw,fun _=>dG.1 h,aw,aw⟩
   ·simp -dsimp only[go_sem];refine⟨(aA hK),hKB,hKE,ja ?_⟩;have h':e.c≠f.c:=fun e=>h (dG.2 e);rw[qr,h1 aw];simp[h']
  ·replace h5:τ 5=aI 3:=h5
   have e0:decide ((0:Int)<=3)=true:=rfl;simp -dsimp only[go_sem,h5,k2,k3,b2,b3,e0];refine ap 8 [] false true ?_;simp -dsimp only[go_sem,h5,k2,k3,b2,b3,Int.reduceToNat,Int.reduceLE,true_and];refine aK (fM _ _) ?_;simp -dsimp only[go_sem,h5,k2,k3,b2,b3,Int.reduceToNat,Int.reduceLE,true_and];refine bi (fun h=>?_) (fun h=>?_)
   ·simp -dsimp only[go_sem,h5]
    repeat(refine And.intro aw ?_)
    refine again 3 aw ⟨(aA hK),hKB,hKE,aw,rfl,fun _=>dG.1 h,aw,aw,aw⟩
   ·simp -dsimp only[go_sem];refine⟨(aA hK),hKB,hKE,ja ?_⟩;have h':e.d≠f.d:=fun e=>h (dG.2 e);rw[qr];simp[h']
 ·rintro x τ β ε π hK hKB hKE (⟨rfl,h⟩|⟨rfl,h⟩)
  ·simp -dsimp only[go_sem,h]
  ·simp -dsimp only[go_sem,h]
theorem R8.parts (x:R8):∃ p q r s,x.l=[.int .i64 x.e.a,.int .i64 x.e.b,.int .i64 x.e.c,.int .i64 x.e.d,p,q,r,s]:=by
 have h1:=x.hl;have h2:=x.he
 match hx:x.l,h1,h2 with
 | [a,b,c,d,p,q,r,s],_,h2 =>
  simp at h2;obtain⟨rfl,rfl,rfl,rfl⟩:=h2;exact⟨p,q,r,s,rfl⟩
theorem GJ (x y:R8):Fn Tryz.prog 198 [.g (x.l.map C.v),.g (y.l.map C.v)] [.c (.v (.int .i64 (cfX x y)))]:=by
 obtain⟨p,q,r,s,hx⟩:=x.parts;obtain⟨p',q',r',s',hy⟩:=y.parts;rw[hx,hy];refine aJ (fn:=Tryz.f198) ?_;simp -dsimp only[go_sem,List.map_cons,List.map_nil];refine aQ (args':=[iE y.e,iE x.e]) rfl (sC _ _) ?_;simp -dsimp only[go_sem];rfl
def dc (e:Ex):Prop:=0<=e.a/\0<=e.b/\0<=e.c/\0<=e.d
instance (e:Ex):Decidable (dc e):=inferInstanceAs (Decidable (_/\_))
section
variable {P:Program} {st:St} {Q:bg->St->Prop}
theorem WP.boxSlice (kind:FuncId->CK) {id:Nat} {o1 o2:Oper} {rest:List Oper} {d1 d2 x t f g:Nat} {T I:TypeId} {ts:Array TypeId} {vs:List Int} {res:Value} {i:TypeInfo} (h1:o1.op = .slice T (.tmp x) none none none) (g1:o1.guard=none) (e1:o1.dst=some d1)
  (h2:o2.op = .call ⟨.value (.func f),#[.tmp d1],ts⟩) (g2:o2.guard=none) (e2:o2.dst=some d2) (hx:st.t x = .bp t g 0) (hg:(st.b t).gen=g) (h0:0<g) (hc:(st.b t).cs=vs.map fun i=>C.v (.int .i64 i))
  (hT:P.underlying T=some (.array vs.length I)) (hi:P.info? I=some i) (hf:Fn P f [.c (.lst (vs.map fun i=>[C.v (.int .i64 i)]))] [.c (.v res)])
  (h:WsF P kind (o1::o2::rest) rest (Q .normal) ((st.setT d1 .any).setT d2 (sc res))):WP P (.region id (o1::o2::rest).toArray false) Q st:=by
 intro ρ W0 M0 N G w a S hd;have hN:=dW hd;have hd1:d1<N:=hN 0 o1 au d1 e1;have hd2:d2<N:=hN 1 o2 au d2 e2;have hv:=S.fr x;rw[hx]at hv;have hxv:=hv.2 hg h0;obtain⟨hown,ys,Ty,hy,hr⟩:=S.bx t aw;rw[hc]at hr;have key:∀{l:List Int} {zs:List Value},aY w (G.M M0) (l.map fun i=>C.v (.int .i64 i)) zs->zs=l.map (.int .i64):=by
  intro l
  induction l with
  | nil=>intro zs h;cases zs with|nil=>rfl|cons _ _=>exact h.elim
  | cons x l ih =>
   intro zs h;cases zs with
   | nil=>exact h.elim
   | cons z zs=>rw[h.1.1,ih h.2];rfl
 have hys:=key hr;have hrows:∀(l:List Int) (off:Nat),(∀ j,j<l.length->w.cell? ⟨G.A t,off+j,none⟩=(l[j]?).map (.int .i64))->aS w (fun _=>False) (l.map fun i=>[C.v (.int .i64 i)]) (G.A t) off 1:=by
  intro l
  induction l with
  | nil=>intro off _;simp only[List.map_nil,aS]
  | cons x l ih =>
   intro off hh;simp only[List.map_cons,aS,br];refine⟨rfl,⟨⟨.int .i64 x,?_,⟨rfl,rfl⟩⟩,trivial⟩,ih (off+1) fun j hj=>?_⟩
   ·have:=hh 0 au;simpa using this
   ·have:=hh (j+1) (by simpa using hj);rw[show off+1+j=off+(j+1)from by omega];simpa using this
 have hrow:aS w (fun _=>False) (vs.map fun i=>[C.v (.int .i64 i)]) (G.A t) 0 1:=hrows vs 0 fun j hj=>by
  rw[bR hy];have:ys[0+j]?=ys.toList[j]?:=au;rw[this,hys,List.getElem?_map]
 have hb:=(S.own (G.A t) (by simp[hown])).2;refine wpIn_region ?_;have hsz:(o1::o2::rest).toArray.size=(rest.length+1)+1:=au;rw[hsz,List.range_eq_range',List.range'_succ,List.range'_succ,wpOpsIn_cons];simp only[wpOpIn,List.getElem?_toArray,List.getElem?_cons_zero];have w1:∀(o:Oper) tm,o.guard=none->Region.wanted o tm=true:=fun o tm h=>by unfold Region.wanted;rw[h]
 rw[w1 o1 _ g1];simp only[if_true];refine cn (by intro c e;rw[h1]at e;cases e) ?_;have ev1:a.eval (.tmp x) = .pointer (some ⟨G.A t,0,none⟩):=by
  show a.tmps.getD x undef=_;rw[Array.getD_eq_getD_getElem?]at hxv;simpa using hxv
 refine bF (y := .slice (some ⟨G.A t,0,none⟩) vs.length vs.length) (w':=w) ?_ ?_
 ·simp only[execOp,h1,ev1,Option.map_none,Instr.sliceAt,Instr.sureAddr,Sem.run_bind,run_underlying hT,Result.andThen_ok,Instr.sliceBounds,Sem.run_pure,run_sizeOf w hi];split<;>simp[Addr.add]
 rw[e1,wpOpsIn_cons];simp only[wpOpIn,List.getElem?_toArray,List.getElem?_cons_succ,List.getElem?_cons_zero];rw[w1 o2 _ g2];simp only[if_true];have S1:Sim W0 M0 N (st.setT d1 .any) G w (a.put (some d1) (.slice (some ⟨G.A t,0,none⟩) vs.length vs.length)) :=
  S.put (dst:=some d1) (v := .any) (fun d h=>by cases h;exact hd1) (bq.refl _ _) fun _=>trivial
 refine cn (by intro c e;rw[h2]at e;cases e) ?_;have ev2:(a.put (some d1) (.slice (some ⟨G.A t,0,none⟩) vs.length vs.length)).eval (.tmp d1) = .slice (some ⟨G.A t,0,none⟩) vs.length vs.length:=by
  have hsz:=S.size;simp[Act.eval,Act.put,undef,hsz,hd1]
 have hrun:=lO S1 (o:=o2) (c:=⟨.value (.func f),#[.tmp d1],ts⟩) (f:=f) h2 (by simp[c8,St.ev]) hf.1;simp only[Oper.wp,hrun,Oper.upon];have hargs:(([Operand.tmp d1]).map (a.put (some d1) (.slice (some ⟨G.A t,0,none⟩) vs.length vs.length)).eval).toArray = #[Value.slice (some ⟨G.A t,0,none⟩) vs.length vs.length]:=by
  rw[List.map_cons,ev2];rfl
 change Calls P f (([Operand.tmp d1]).map (a.put (some d1) (.slice (some ⟨G.A t,0,none⟩) vs.length vs.length)).eval).toArray w _
 rw[hargs];refine(hf.2 w (fun _=>False) [_] (fun _ h=>h.elim) ⟨?_,trivial⟩).mono ?_
 ·refine⟨_,_,_,rfl,au,ay _,?_⟩;exact .inr ⟨_,0,1,rfl,hb,fun h=>h,hrow⟩
 ·rintro e w' ⟨y,rfl,hy',hbl⟩;have hy2:y=res:=hy'.1;subst hy2;rw[e2];have S2:Sim W0 M0 N ((st.setT d1 .any).setT d2 (sc y)) G w' ((a.put (some d1) (.slice (some ⟨G.A t,0,none⟩) vs.length vs.length)).put (some d2) y) :=
   S1.put (dst:=some d2) (v:=sc y) (fun d h=>by cases h;exact hd2) hbl fun _=>hy'
  exact fL (ρ:=ρ) (P:=P) (kind:=kind) (K:=Q .normal) (Q:=fun e a' w'=>∃ x st' G',bz e=some x/\Q x st'/\Sim W0 M0 N st' G' w' a') hN rest 2 (fun i=>by simp[Nat.add_comm 2]) S2 (dm (ops:=(o1::o2::rest).toArray) h)
   (fun a' w' ⟨st',G',h1,h2⟩=>⟨.normal,st',G',rfl,h1,h2⟩)
end
theorem M4 (a b c d:Int):Fn Tryz.prog 218 [.c (.lst [[.v (.int .i64 a)],[.v (.int .i64 b)],[.v (.int .i64 c)],[.v (.int .i64 d)]])] [iN (min (min (min a b) c) d)]:=by
 refine aJ (fn:=Tryz.f218) ?_;have e1:decide (((4:Nat):Int)<1)=false:=rfl;simp -dsimp only[go_sem,e1,Int.reduceToNat,Int.reduceLE,true_and];refine a8 [(3,4),(12,23)] [] [] (fun n τ β _=>∃ i:Nat,n=4-i/\1<=i/\i<=4/\τ 4=aI i/\τ 3=aI (if i=1 then a else if i=2 then min a b else if i=3 then min (min a b) c else min (min (min a b) c) d))
  (fun x τ β _=>x = .exit 0/\τ 3=aI (min (min (min a b) c) d)) 3 ?_ ?_ ?_
 ·exact⟨1,rfl,aw,aw,rfl,rfl⟩
 ·rintro n τ β ε π hK hKB hKE ⟨i,hn,h1,h2,h4,h3⟩;have k0:τ 0 = .i (.c (.lst [[.v (.int .i64 a)],[.v (.int .i64 b)],[.v (.int .i64 c)],[.v (.int .i64 d)]])):=hK 0 aH;obtain rfl|rfl|rfl|rfl:i=1\/i=2\/i=3\/i=4:=aw
  ·replace h3:τ 3=aI a:=h3
   have e0:decide (((1:Nat):Int)<((4:Nat):Int))=true:=rfl;simp -dsimp only[go_sem,k0,h3,h4,e0];refine⟨aw,again 2 aw ⟨(aA hK),hKB,hKE,2,rfl,aw,aw,rfl,rfl⟩⟩
  ·replace h3:τ 3=aI (min a b):=h3
   have e0:decide (((2:Nat):Int)<((4:Nat):Int))=true:=rfl;simp -dsimp only[go_sem,k0,h3,h4,e0];refine⟨aw,again 1 aw ⟨(aA hK),hKB,hKE,3,rfl,aw,aw,rfl,rfl⟩⟩
  ·replace h3:τ 3=aI (min (min a b) c):=h3
   have e0:decide (((3:Nat):Int)<((4:Nat):Int))=true:=rfl;simp -dsimp only[go_sem,k0,h3,h4,e0];refine⟨aw,again 0 aw ⟨(aA hK),hKB,hKE,4,rfl,aw,aw,rfl,rfl⟩⟩
  ·replace h3:τ 3=aI (min (min (min a b) c) d):=h3
   have e0:decide (((4:Nat):Int)<((4:Nat):Int))=false:=rfl;simp -dsimp only[go_sem,k0,h3,h4,e0];exact⟨(aA hK),hKB,hKE⟩
 ·rintro x τ β ε π hK hKB hKE ⟨rfl,h⟩;simp -dsimp only[go_sem,h]
theorem mj (e:Ex):Fn Tryz.prog 195 [iE e] [iB (decide (dc e))]:=by
 refine Be (fn:=Tryz.f195) av rfl av au av ?_;refine WP.seq (bQ (kind:=kd) _ ?_);simp -dsimp only[go_sem];refine WP.seq ?_;refine WP.boxSlice kd (d1:=3) (d2:=4) (x:=1) (t:=1) (f:=218) (g:=1) (T:=100) (I:=3) (vs:=[e.a,e.b,e.c,e.d]) (res := .int .i64 (min (min (min e.a e.b) e.c) e.d)) rfl rfl rfl rfl rfl rfl ?_ ?_ aw ?_ rfl rfl (M4 _ _ _ _) ?_
 ·simp -dsimp only[go_sem]
 ·simp -dsimp only[go_sem]
 ·simp -dsimp only[go_sem]
 simp -dsimp only[go_sem];refine bQ (kind:=kd) _ ?_;simp -dsimp only[go_sem];have:decide (0<=min (min (min e.a e.b) e.c) e.d)=decide (dc e):=by
  rw[decide_eq_decide];unfold dc;omega
 rw[this];refine⟨.inr rfl,?_⟩;show eF _ [ResultVar.tmp 2]=_;simp -dsimp only[go_sem]
abbrev Tm:=Ex×Rat
def zq:Array Value := #[.bool false,.slice none 0 0,.bool false,.slice none 0 0]
theorem mt:ij Tryz.prog 153 100 94 3 zq where
 hu:=rfl
 hk:=rfl
 hI:=rfl
 hi:=⟨_,rfl,rfl⟩
 hz:=fun w=>by
  have h:∃ i,Tryz.prog.info? 94=some i/\i.zero=some (.agg zq):=⟨_,rfl,rfl⟩;obtain⟨i,h1,h2⟩:=h;simp[zeroValue,typeInfo,h1,h2]
theorem zq1:∀ x∈zq.toList,x.oneCell'=true:=aH
def eE (L:List Tm):List (Ex×List C):=L.map fun t=>(t.1,eQ t.2)
def addT:List Tm->Ex->Rat->List Tm
 | [],e,c=>[(e,c)]
 | x::L,e,c=>if e=x.1 then(e,x.2+c)::L else x::addT L e c
theorem NN (e:Ex) (c:Rat):∀(L:List Tm) (i:Nat),(io e (eE L) i=none/\eE (addT L e c)=eE L++[(e,eQ c)]) \/
  ∃ j q,io e (eE L) i=some (i+j,eQ q)/\(e,q)∈L/\eE (addT L e c)=(eE L).set j (e,eQ (q+c))
 | [],_ => .inl ⟨rfl,rfl⟩
 | x::L,i=>by
  by_cases h:e=x.1
  ·subst h;exact .inr ⟨0,x.2,by simp[eE,io],au,by simp[eE,addT]⟩
  ·rcases NN e c L (i+1)with⟨h1,h2⟩|⟨j,q,h1,h2,h3⟩
   ·left;refine⟨?_,?_⟩
    ·simpa [eE,io,h]using h1
    ·simpa [eE,addT,h]using h2
   ·right;refine⟨j+1,q,?_,by simp[h2],?_⟩
    ·rw[show i+(j+1)=i+1+j from by omega];simpa [eE,io,h]using h1
    ·simpa [eE,addT,h]using h3
theorem JB (P:Program) (rl:List ResultVar) (res:List IV) (kv':List (List C×List C)) (e:bg) (st:St) :
 JC P rl res kv' e st=((e = .normal\/e = .ret)/\eF (st.res1 P) rl=some res/\(st.p 0).gen=1/\(st.p 0).of=none/\(st.p 0).kv=kv'):=(rfl)
def Cz (args:List IV) (n:Nat):AV:=match n with|0 => .mp 0 1|n+1=>uG args n
def iA (kv:List (List C×List C)) (n:Nat):MP:=if n=0 then{ gen:=1,kv:=kv }else{ gen:=0,kv:=[] }
theorem Gt (kv:List (List C×List C)) (args:List IV):nK kv args=⟨Cz args,mS,oQ,iA kv⟩:=(rfl)
theorem Ah (args:List IV):Cz args 0 = .mp 0 1:=(rfl)
theorem Ai (args:List IV) (n:Nat):Cz args (n+1)=uG args n:=(rfl)
theorem Aj (kv:List (List C×List C)):iA kv 0={ gen:=1,kv:=kv }:=(rfl)
theorem uH (kv:List (List C×List C)):∀ t,0<(iA kv t).gen->(iA kv t).of≠some 0:=fun t _=>by
 unfold iA;split<;>simp
attribute [go_sem] JB Gt Ah Ai Aj
theorem CE {e:Ex} {L:List (Ex×List C)} (h:io e L 0=none):uS zq e L=[.g [.v (.bool false),.lst [],.v (.bool false),.lst []],iB false]:=by unfold uS;rw[h];rfl
theorem CD {e:Ex} {L:List (Ex×List C)} {j:Nat} {cs:List C} (h:io e L 0=some (j,cs)):uS zq e L=[.g cs,iB true]:=by unfold uS;rw[h]
theorem FC {e:Ex} {cs:List C} {L:List (Ex×List C)} (h:io e L 0=none):xp e cs L=L++[(e,cs)]:=by unfold xp;rw[h]
theorem FA {e:Ex} {cs cs':List C} {L:List (Ex×List C)} {j:Nat} (h:io e L 0=some (j,cs')):xp e cs L=L.set j (e,cs):=by unfold xp;rw[h]
theorem wt (L:List Tm) (e:Ex) (c:Rat) (hL:∀ q,(e,q)∈L->QB 8589934592 q) (hc:QB 8589934592 c):KF Tryz.prog 155 (kvE (eE L)) (kvE (eE (addT L e c))) [iE e,iQ c] []:=by
 refine Do kd (fn:=Tryz.f155) av rfl rfl rfl av au av ?_;simp -dsimp only[go_sem];refine Cm mt zq1 (t:=0) (g:=1) (e:=e) (L:=eE L) rfl rfl aw rfl rfl rfl ?_;rcases NN e c L 0 with⟨h1,h2⟩|⟨j,q,h1,h2,h3⟩
 ·simp -dsimp only[go_sem,CE h1];refine oP mt (t:=0) (g:=1) (e:=e) (cs:=eQ c) (L:=eE L) rfl rfl aw rfl rfl (by simp -dsimp only[go_sem];exact uH _) rfl rfl ?_;simp -dsimp only[go_sem,FC h1,h2]
 ·rw[Nat.zero_add]at h1;simp -dsimp only[go_sem,CD h1];refine ao (ET q c (hL q h2) hc) rfl ?_;simp -dsimp only[go_sem];refine oP mt (t:=0) (g:=1) (e:=e) (cs:=eQ (q+c)) (L:=eE L) rfl rfl aw rfl rfl (by simp -dsimp only[go_sem];exact uH _) rfl rfl ?_;simp -dsimp only[go_sem,FA h1,h3]
abbrev LI:=(Nat->AV)->(Nat->BX)->(Nat->EN)->(Nat->MP)->Prop
def Ds (I:Nat->LI) (n:Nat) (s:St):Prop:=∃ m τ β ε π,bA s ⟨τ,β,ε,π⟩/\m<n/\I m τ β ε π
theorem ki {I:Nat->LI} {n:Nat} (m:Nat) {τ:Nat->AV} {β:Nat->BX} {ε:Nat->EN} {π:Nat->MP} (hm:m<n) (h:I m τ β ε π):Ds I n ⟨τ,β,ε,π⟩:=⟨m,τ,β,ε,π,bA.refl _,hm,h⟩
theorem yn {I:Nat->LI} {n:Nat} (m n0 k d:Nat) {g len:Nat} {τ:Nat->AV} {β:Nat->BX} {ε:Nat->EN} {π:Nat->MP} (hm:m<n) (h:τ n0 = .sl k g len) (hg:(ε k).gen=g) (hg0:0<g) (hkd:k≠d)
  (hI:I m (upd τ n0 (.sl d ((ε d).gen+1) len)) β (upd (upd ε k ⟨(ε k).gen+1,0,[],false,false⟩) d { ε k with gen:=(ε d).gen+1 }) π):Ds I n ⟨τ,β,ε,π⟩ :=
 ⟨m,_,_,_,_,bA.rekey ⟨τ,β,ε,π⟩ n0 k d h hg hg0 hkd,hm,hI⟩
def QX (Mid:bg->LI) (e:bg) (s:St):Prop:=Mid e s.t s.b s.e s.p
theorem LH (Mid:bg->LI) (e:bg) (τ:Nat->AV) (β:Nat->BX) (ε:Nat->EN) (π:Nat->MP):QX Mid e ⟨τ,β,ε,π⟩=Mid e τ β ε π:=(rfl)
attribute [go_sem] LH
theorem mu {P:Program} {kind:FuncId->CK} {c:Code} {Q:bg->St->Prop} (A B E:List (Nat×Nat)) (I:Nat->LI) (Mid:bg->LI) (n:Nat)
  {τ0:Nat->AV} {β0:Nat->BX} {ε0:Nat->EN} {π0:Nat->MP} (h0:I n τ0 β0 ε0 π0)
  (round:∀ n τ β ε π,Kp A τ0 τ->Kp B β0 β->Kp E ε0 ε->I n τ β ε π->CW P kind c (jl (Ds (fun n τ β ε π=>Kp A τ0 τ/\Kp B β0 β/\Kp E ε0 ε/\I n τ β ε π) n) (QX (fun e τ β ε π=>Kp A τ0 τ/\Kp B β0 β/\Kp E ε0 ε/\Mid e τ β ε π))) ⟨τ,β,ε,π⟩)
  (fin:∀ e τ β ε π,Kp A τ0 τ->Kp B β0 β->Kp E ε0 ε->Mid e τ β ε π->∃ s',bA ⟨τ,β,ε,π⟩ s'/\Q e s'):m6 P kind c Q ⟨τ0,β0,ε0,π0⟩ ⟨⟩:=by
 refine WP.post (WP.mono (Q:=fun e s=>Kp A τ0 s.t/\Kp B β0 s.b/\Kp E ε0 s.e/\Mid e s.t s.b s.e s.p) (WP.loop (fun n s=>Kp A τ0 s.t/\Kp B β0 s.b/\Kp E ε0 s.e/\I n s.t s.b s.e s.p) (n:=n) ⟨_,bA.refl _,Kp.refl _ _,Kp.refl _ _,Kp.refl _ _,h0⟩ fun n s hs=>?_) fun e s hs=>fin e s.t s.b s.e s.p hs.1 hs.2.1 hs.2.2.1 hs.2.2.2);refine(bQ c (round n s.t s.b s.e s.p hs.1 hs.2.1 hs.2.2.1 hs.2.2.2)).mono fun e s' h'=>?_;cases e with
 | normal =>
  obtain⟨m,τ,β,ε,π,hw,hm,hI⟩:=h';exact⟨⟨τ,β,ε,π⟩,m,hw,hm,hI⟩
 | exit id=>exact h'
 | ret=>exact h'
section
variable {P:Program} {st:St} {Q:bg->St->Prop} {kind:FuncId->CK}
theorem WP.reg2 {id:Nat} {o1 o2:Oper} {rest:List Oper} (g1:o1.guard=none) (g2:o2.guard=none) (hnd:∀ c,o2.op ≠ .defer c)
  (h:W P kind none o1.dst (fun s=>qy P o2 s (fun s'=>WsF P kind (o1::o2::rest) rest (Q .normal) s')) st o1.op):WP P (.region id (o1::o2::rest).toArray false) Q st:=by
 intro ρ W0 M0 N G w a S hd;have hN:=dW hd;refine wpIn_region ?_;have hsz:(o1::o2::rest).toArray.size=(rest.length+1)+1:=au;have w1:∀(o:Oper) tm,o.guard=none->Region.wanted o tm=true:=fun o tm h=>by unfold Region.wanted;rw[h]
 rw[hsz,List.range_eq_range',List.range'_succ,List.range'_succ,wpOpsIn_cons];simp only[wpOpIn,List.getElem?_toArray,List.getElem?_cons_zero];rw[w1 o1 _ g1];simp only[if_true];have hA:=oD h;refine cn (pG hA) (Oper.wp_mono ?_ (iG S (hN 0 o1 au) hA));rintro a1 w1' ⟨s1,G1,hs1,S1⟩;rw[wpOpsIn_cons];simp only[wpOpIn,List.getElem?_toArray,List.getElem?_cons_succ,List.getElem?_cons_zero];rw[w1 o2 _ g2];simp only[if_true];refine cn hnd (Oper.wp_mono ?_ (hs1 W0 M0 N G1 w1' a1 _ S1 (hN 1 o2 au)));rintro a2 w2 ⟨s2,G2,hs2,S2⟩;exact fL (ρ:=ρ) (P:=P) (kind:=kind) (K:=Q .normal) (Q:=fun e a' w'=>∃ x st' G',bz e=some x/\Q x st'/\Sim W0 M0 N st' G' w' a') hN rest 2 (fun i=>by simp[Nat.add_comm 2]) S2 (dm (ops:=(o1::o2::rest).toArray) hs2)
  (fun a' w' ⟨st',G',h1,h2⟩=>⟨.normal,st',G',rfl,h1,h2⟩)
theorem LQ {Kt V I:TypeId} {z:Array Value} {o:Oper} {K:St->Prop} {x:Operand} {T:TypeId} {t g:Nat} (hT:ij P T Kt V I z) (ho:o.op = .call ⟨.builtin .len,#[x],#[T]⟩) (hx:st.ev x = .mp t g) (hg:(st.p t).gen=g) (h0:0<g) (hof:(st.p t).of=none)
  (hK:K (st.put o.dst (sc (.int .i64 (st.p t).kv.length)))):qy P o st K:=by
 intro W0 M0 N G w a Q S hd;obtain⟨hxv,hown,hmp⟩:=pi S hx hg h0;rw[hof]at hmp hxv;obtain⟨es,clock,h1,h2,h3⟩:=hmp;have hl:=h3.len;refine bF (y := .int .i64 (st.p t).kv.length) (w':=w) ?_ ⟨_,G,hK,S.put hd (bq.refl _ _) fun _=>⟨rfl,rfl⟩⟩;have hget:(getObj (G.Q t)).run P w = .ok (.map es clock) w:=by simp[getObj,Sem.run,h1]
 simp[execOp,ho,hxv,mP,resolve,invoke,builtin,Builtin.len_,run_underlying hT.hu,hget,hl,goInt]
end
def eT (t:Tm):List C:=t.1.cs++eQ t.2
def keep (t:Tm):Bool:=decide (dc t.1) && decide (t.2≠0)
def qh (t:Tm):List Tm->List Tm
 | []=>[t]
 | x::R=>if 0<cp t.1 x.1 then t::x::R else x::qh t R
def FK:List Tm->List Tm
 | []=>[]
 | t::L=>qh t (FK L)
def vM (L:List Tm):List Tm:=FK (L.filter keep)
def Srt (L:List Tm):Prop:=L.Pairwise fun x y=>0<cp x.1 y.1
theorem i7 (e f:Ex):0<cp e f↔f.d<e.d\/e.d=f.d/\(f.c<e.c\/e.c=f.c/\(f.b<e.b\/e.b=f.b/\f.a<e.a)):=by
 unfold cp vN
 (repeat' split)<;>omega
theorem jK (e f:Ex):cp e f=0↔e=f:=by
 constructor
 ·intro h;cases e;cases f;unfold cp vN at h;simp only[Ex.mk.injEq]
  (repeat' split at h)<;>simp_all<;>omega
 ·rintro rfl;unfold cp vN;simp
theorem rD (t:Tm):∀ R,(qh t R).Perm (t::R)
 | [] => .refl _
 | x::R=>by
  simp only[qh];split
  ·exact .refl _
  ·exact((rD t R).cons x).trans (.swap _ _ _)
theorem li:∀ L,(FK L).Perm L
 | [] => .refl _
 | t::L=>(rD t _).trans ((li L).cons t)
theorem Af (t:Tm):∀{R},Srt R->(∀ x∈R,x.1≠t.1)->Srt (qh t R)
 | [],_,_=>List.pairwise_singleton _ _
 | x::R,h,hn=>by
  have h1:=List.pairwise_cons.1 h;simp only[qh];split
  ·rename_i hp;refine List.pairwise_cons.2 ⟨fun y hy=>?_,h⟩;rcases List.mem_cons.1 hy with rfl|hy
   ·exact hp
   ·have:=h1.1 y hy;rw[i7]at *;omega
  ·rename_i hp;refine List.pairwise_cons.2 ⟨fun y hy=>?_,Af t h1.2 fun y hy=>hn y (by simp[hy])⟩;rcases List.mem_cons.1 ((rD t R).mem_iff.1 hy)with rfl|hy
   ·have h3:cp y.1 x.1≠0:=fun e=>hn x au ((jK _ _).1 e).symm;rw[i7]at *
    have h4:=fun h=>h3 ((jK _ _).2 h);by_cases e1:y.1.d=x.1.d<;>by_cases e2:y.1.c=x.1.c<;>by_cases e3:y.1.b=x.1.b<;>by_cases e4:y.1.a=x.1.a<;>first|omega|(exfalso;apply h4;rcases y with⟨⟨⟩,_⟩;rcases x with⟨⟨⟩,_⟩;simp_all)
   ·exact h1.1 y hy
theorem tW:∀{L:List Tm},(L.map (·.1)).Nodup->Srt (FK L)
 | [],_=>List.Pairwise.nil
 | t::L,h=>by
  simp only[List.map_cons,List.nodup_cons]at h;refine Af t (tW h.2) fun x hx e=>h.1 ?_;have:=(li L).mem_iff.1 hx;exact e ▸ List.mem_map.2 ⟨x,this,rfl⟩
theorem FJ {L R:List Tm} (hn:(L.map (·.1)).Nodup) (hp:L.Perm R) (hs:R.Pairwise fun x y=>0<=cp x.1 y.1):R=FK L:=by
 have hnR:(R.map (·.1)).Nodup:=(hp.map _).nodup_iff.1 hn;have h2:=tW hn;refine List.Perm.eq_of_pairwise (le:=fun x y=>0<=cp x.1 y.1) (fun a b ha hb h1 h3=>?_) hs (h2.imp fun h=>Int.le_of_lt h) (hp.symm.trans (li L).symm);have e:a.1=b.1:=by
  rw[<-jK];have e1:cp b.1 a.1 = -cp a.1 b.1:=by unfold cp vN;(repeat' split)<;>omega
  omega
 have hb':b∈R:=hp.mem_iff.1 ((li L).mem_iff.1 hb);obtain⟨i,hi⟩:=List.getElem?_of_mem ha;obtain⟨j,hj⟩:=List.getElem?_of_mem hb';have hi':=List.getElem?_eq_some_iff.1 hi;have hj':=List.getElem?_eq_some_iff.1 hj;obtain⟨i1,i2⟩:=hi';obtain⟨j1,j2⟩:=hj';have hij:i=j:=by
  have:=List.pairwise_iff_getElem.1 (List.pairwise_map.1 hnR);rcases Nat.lt_trichotomy i j with h|h|h
  ·exact absurd (by rw[i2,j2];exact e) (this i j i1 j1 h)
  ·exact h
  ·exact absurd (by rw[i2,j2];exact e.symm) (this j i j1 i1 h)
 subst hij;rw[<-i2,<-j2]
def Ko (rs:List (List C)) (n k:Nat) (τ:Nat->AV) (ε:Nat->EN):Prop:=∃ g,0<g/\τ n = .sl k g rs.length/\ε k=⟨g,8,rs,true,true⟩
theorem LY {rem:List Tm} {i:Nat} {y:List C×List C} (h:(kvE (eE rem))[i]?=some y):∃ t,rem[i]?=some t/\y=(t.1.cs,eQ t.2):=by
 unfold kvE eE at h;simp only[List.getElem?_map]at h;cases ht:rem[i]? with
 | none=>simp[ht]at h
 | some t=>simp[ht]at h;exact⟨t,rfl,h.symm⟩
theorem kT {α β:Type} (f:α->β):∀(l:List α) (j:Nat),(l.eraseIdx j).map f=(l.map f).eraseIdx j
 | [],_=>by simp
 | _::_,0=>by simp
 | a::r,j+1=>by simp[kT f r j]
theorem Gq (rem:List Tm) (i:Nat):(kvE (eE rem)).eraseIdx i=kvE (eE (rem.eraseIdx i)):=by
 unfold kvE eE;rw[<-kT,<-kT]
theorem LX {rem:List Tm} (h:kvE (eE rem)=[]):rem=[]:=by
 unfold kvE eE at h;simpa using h
theorem ul {α:Type}:∀{l:List α} {i:Nat} {x:α},l[i]?=some x->l.Perm (x::l.eraseIdx i)
 | [],_,_,h=>by simp at h
 | a::l,0,x,h=>by simp at h;subst h;simp
 | a::l,i+1,x,h=>by
  simp only[List.eraseIdx_cons_succ];exact((ul (by simpa using h)).cons a).trans (.swap _ _ _)
theorem DJ (D:List Tm):D.map eT=(eE D).map nu:=by unfold eE eT nu;simp
theorem Aq (t:Tm):eT t=[.v (.int .i64 t.1.a),.v (.int .i64 t.1.b),.v (.int .i64 t.1.c),.v (.int .i64 t.1.d),.v (.bool (decide (t.2.num<0))),.lst ((lb t.2.num).map bG),.v (.bool (decide ((t.2.den:Int)<0))),.lst ((lb t.2.den).map bG)]:=(rfl)
attribute [go_sem] Aq
theorem QI (kv:List (List C×List C)) (q:MP) (k:Nat) (hq:q.of=some 0) (hk:k≠0) (t:Nat) (_:0<(upd (iA kv) 10 q t).gen):(upd (iA kv) 10 q t).of≠some k:=by
 rw[bT];split
 ·rw[hq];simp;omega
 ·unfold iA;split<;>simp
theorem i6 (D:List Tm) (t:Tm):((D++[t]).filter keep).map eT=(D.filter keep).map eT++(if keep t then[eT t]else[]):=by
 rw[List.filter_append,List.map_append];cases h:keep t<;>simp[h]
theorem Ko.mk {rs rs':List (List C)} {n k g len:Nat} {τ:Nat->AV} {ε:Nat->EN} (hg:0<g) (h:τ n = .sl k g len) (he:ε k=⟨g,8,rs',true,true⟩) (hl:len=rs'.length) (hr:rs'=rs):Ko rs n k τ ε:=⟨g,hg,by rw[h,hl,hr],by rw[he,hr]⟩
theorem In {α β:Type} (f:α->β) {l' L':List β} (h:l'.Perm L'):∀{l:List α},l'=l.map f->∃ R,l.Perm R/\L'=R.map f:=by
 induction h with
 | nil=>intro l h;exact⟨l,.refl _,h⟩
 | cons x h ih =>
  intro l hl;cases l with
  | nil=>simp at hl
  | cons y l =>
   simp at hl;obtain⟨R,h1,h2⟩:=ih hl.2;exact⟨y::R,h1.cons y,by simp[hl.1,h2]⟩
 | swap x y l0 =>
  intro l hl
  match l,hl with
  | a::b::l,hl =>
   simp at hl;exact⟨b::a::l,.swap _ _ _,by simp[hl]⟩
 | trans _ _ ih1 ih2 =>
  intro l hl;obtain⟨R1,h1,h2⟩:=ih1 hl;obtain⟨R2,h3,h4⟩:=ih2 h2;exact⟨R2,h1.trans h3,h4⟩
theorem va (L:List Tm) (hn:(L.map (·.1)).Nodup) (hl:L.length<=1099511627776):KF Tryz.prog 157 (kvE (eE L)) (kvE (eE L)) [] [.c (.lst ((vM L).map eT))]:=by
 refine vz (fn:=Tryz.f157) av rfl rfl av au av ?_;refine WP.seq (bQ (kind:=kd) _ ?_);simp -dsimp only[go_sem];refine WP.seq (WP.reg2 (kind:=kd) rfl rfl (by intro c e;cases e) ?_);simp -dsimp only[go_sem];refine LQ mt (t:=0) (g:=1) rfl rfl rfl aw rfl ?_;have hkl:(kvE (eE L)).length=L.length:=by unfold kvE eE;simp
 simp -dsimp only[go_sem,hkl];refine⟨aw,⟨au,aw,aw⟩,?_⟩;refine bQ (kind:=kd) _ ?_;simp -dsimp only[go_sem];refine FY mt (d:=10) (t:=0) (g:=1) rfl rfl aw rfl aH (by simp -dsimp only[go_sem];intro t h;unfold iA;split<;>simp) ?_;simp -dsimp only[go_sem];refine mu [(3,5),(11,28)] [(4,5)] [(8,8),(28,28)] (fun n τ β ε π=>∃(D rem:List Tm),n=rem.length/\(D++rem).Perm L/\(∃ q,π=upd (iA (kvE (eE L))) 10 q/\q.gen=1/\q.of=some 0/\q.kv=kvE (eE rem))/\Ko ((D.filter keep).map eT) 3 8 τ ε)
  (fun e τ β ε π=>e = .exit 0/\(∃(D:List Tm),D.Perm L/\Ko ((D.filter keep).map eT) 3 8 τ ε)/\∃ q,π=upd (iA (kvE (eE L))) 10 q/\q.of=some 0) L.length ?_ ?_ ?_
 ·exact⟨[],L,rfl,.refl _,⟨_,rfl,rfl,rfl,rfl⟩,1,aw,rfl,rfl⟩
 ·rintro n τ β ε π hK hKB hKE ⟨D,rem,hn',hp,⟨q,rfl,hqg,hqo,hqk⟩,g,hg,h3,h8⟩;have k10:τ 10 = .mp 10 1:=hK 10 aH;simp -dsimp only[go_sem,k10];refine IJ (t:=10) (g:=1) (k:=0) (by simp -dsimp only[go_sem,k10]) (by simp -dsimp only[go_sem,hqg]) aw (by simp -dsimp only[go_sem,hqo]) (QI _ _ _ hqo aw) ?_ ?_
  ·intro hnil;have hr:rem=[]:=LX (by have:=hnil;simp -dsimp only[go_sem,hqk]at this;exact this);subst hr;rw[List.append_nil]at hp;simp -dsimp only[go_sem];exact⟨(aA hK),hKB,hKE,⟨D,hp,g,hg,h3,h8⟩,_,rfl,hqo⟩
  ·intro i y hy;obtain⟨t,ht,rfl⟩:=LY (by have:=hy;simp -dsimp only[go_sem,hqk]at this;exact this);simp -dsimp only[go_sem,k10];refine GB (t:=10) (g:=1) (k:=0) (y:=(t.1.cs,eQ t.2)) (by simp -dsimp only[go_sem,k10]) rfl aw rfl rfl ?_;have hil:=(List.getElem?_eq_some_iff.1 ht).1;have hrl:(rem.eraseIdx i).length=rem.length-1:=List.length_eraseIdx_of_lt hil;have hp':((D++[t])++rem.eraseIdx i).Perm L:=by
    rw[List.append_assoc];exact(((ul ht).symm.append_left D)).trans hp
   have hlen:((D++[t]).filter keep).length<=L.length:=ax (List.length_filter_le _ _) (by have:=hp'.length_eq;simp at this ⊢;omega);have hQ0:decide (t.2.num.sign=0)=decide (t.2=0):=by rw[decide_eq_decide,Int.sign_eq_zero_iff_zero,Rat.num_eq_zero]
   have hpi:∃ q',upd (upd (iA (kvE (eE L))) 10 q) 10 { gen:=1,kv:=q.kv.eraseIdx i,of:=some 0,cur:=some (t.1.cs,eQ t.2) }=upd (iA (kvE (eE L))) 10 q'/\q'.gen=1/\q'.of=some 0/\q'.kv=kvE (eE (rem.eraseIdx i)):=by
    refine⟨{ gen:=1,kv:=q.kv.eraseIdx i,of:=some 0,cur:=some (t.1.cs,eQ t.2) },?_,rfl,rfl,by rw[hqk];exact Gq rem i⟩;funext k;simp only[bT];split<;>rfl
   simp -dsimp only[go_sem];refine ao (mj t.1) rfl ?_;by_cases hN:dc t.1
   ·have e1:decide (dc t.1)=true:=aF hN;simp -dsimp only[go_sem,e1];refine ao (qE t.2) rfl ?_;by_cases hq:t.2=0
    ·have e2:decide (t.2.num.sign=0)=true:=by rw[hQ0];exact aF hq
     have hk:keep t=false:=by simp[keep,hq]
     simp -dsimp only[go_sem,e1,e2];refine ki (rem.length-1) aw ⟨(aA hK),(aA hKB),hKE,D++[t],rem.eraseIdx i,hrl.symm,hp',?_,g,hg,?_,?_⟩
     ·have:=hpi;simp -dsimp only[go_sem]at this ⊢;exact this
     ·simp -dsimp only[go_sem,h3,i6,hk]
     ·simp -dsimp only[go_sem,h8,i6,hk]
    ·have e2:decide (t.2.num.sign=0)=false:=by rw[hQ0];exact aG hq
     have hk:keep t=true:=by simp[keep,hN,hq]
     rw[List.filter_append,List.length_append,List.filter_cons,hk]at hlen;simp only[if_true,List.filter_nil,List.length_cons,List.length_nil]at hlen;simp -dsimp only[go_sem,e1,e2,h3,h8];refine⟨hg,aw,yn (rem.length-1) 3 28 8 aw rfl rfl aw aH ⟨?_,?_,?_,D++[t],rem.eraseIdx i,hrl.symm,hp',?_,?_⟩⟩
     ·exact(aA hK)
     ·exact(aA hKB)
     ·exact(aA hKE)
     ·have:=hpi;simp -dsimp only[go_sem]at this ⊢;exact this
     ·exact Ko.mk (Nat.succ_pos _) (by simp -dsimp only[go_sem];rfl) (by simp -dsimp only[go_sem];rfl) au (by rw[i6,hk];rfl)
   ·have e1:decide (dc t.1)=false:=aG hN;have hk:keep t=false:=by simp[keep,hN]
    simp -dsimp only[go_sem,e1];refine ki (rem.length-1) aw ⟨(aA hK),(aA hKB),hKE,D++[t],rem.eraseIdx i,hrl.symm,hp',?_,g,hg,?_,?_⟩
    ·have:=hpi;simp -dsimp only[go_sem]at this ⊢;exact this
    ·simp -dsimp only[go_sem,h3,i6,hk]
    ·simp -dsimp only[go_sem,h8,i6,hk]
 ·rintro e τ β ε π hK hKB hKE ⟨rfl,⟨D,hp,g,hg,h3,h8⟩,q,rfl,hqo⟩;refine⟨_,bA.refl _,?_⟩;simp -dsimp only[go_sem,h3];have hfl:(D.filter keep).length<=L.length:=ax (List.length_filter_le _ _) (Nat.le_of_eq hp.length_eq);have hml:(eE (D.filter keep)).length=(D.filter keep).length:=by simp[eE]
  refine HR (f:=197) (g:=198) (x := .tmp 29) (t:=8) (gn:=g) (L:=eE (D.filter keep)) rfl rfl rfl ⟨Tryz.f197,_,rfl,rfl,rfl⟩ (fun b cap d w h1 h2 h3=>xz GJ b cap d w h1 h2 h3) (by simp -dsimp only[go_sem,hml]) (by simp -dsimp only[go_sem,h8]) hg (by simp -dsimp only[go_sem,h8]) (by simp -dsimp only[go_sem,h8]) (by simp -dsimp only[go_sem,h8];exact DJ _) ?_ aw ?_
  ·intro x hx;obtain⟨t,_,rfl⟩:=List.mem_map.1 hx;rfl
  ·intro L' hp' hs';obtain⟨R,hR,hL'⟩:=In _ hp' rfl;have hfp:(L.filter keep).Perm R:=((hp.symm.filter keep)).trans hR;have hu:R=vM L:=FJ ((List.Sublist.map _ List.filter_sublist).nodup hn) hfp (List.pairwise_map.1 (hL' ▸ hs'));have hlen:(D.filter keep).length=(vM L).length:=by rw[<-hu];exact hR.length_eq
   have he:L'.map nu=(vM L).map eT:=by rw[<-hu,hL'];exact(DJ R).symm
   simp -dsimp only[go_sem,h8,h3,he,hlen,az,hg]
abbrev cM (p:List Tm):C := .lst (p.map eT)
abbrev iM (p:List Tm):IV := .c (cM p)
def e0:Ex:=⟨0,0,0,0⟩
theorem D3 (p:List Tm):lens 8 (p.map eT):=fun r hr=>by obtain⟨t,-,rfl⟩:=List.mem_map.1 hr;rfl
theorem I0 (p:List Tm):lens 8 (p.map eT)=True:=eq_true (D3 p)
attribute [go_sem] I0
theorem ci (q:Rat):decide (q.num.sign=0)=decide (q=0):=by rw[decide_eq_decide,Int.sign_eq_zero_iff_zero,Rat.num_eq_zero]
def gv (c:Rat):List Tm:=if c=0 then[]else[(e0,c)]
theorem qP (c:Rat):Fn Tryz.prog 146 [iQ c] [iM (gv c)]:=by
 refine aJ (fn:=Tryz.f146) ?_;simp -dsimp only[go_sem];refine ao (qE c) rfl ?_;by_cases h:c=0
 ·have e1:decide (c.num.sign=0)=true:=by rw[ci];exact aF h
  simp -dsimp only[go_sem,e1];rw[gv,if_pos h];rfl
 ·have e1:decide (c.num.sign=0)=false:=by rw[ci];exact aG h
  simp -dsimp only[go_sem,e1];rw[gv,if_neg h];rfl
theorem u9:gv 1=[(e0,1)]:=by rw[gv,if_neg aH]
theorem Dz:Fn Tryz.prog 124 [] [iM [(e0,1)]]:=by
 refine aJ (fn:=Tryz.f124) ?_;simp -dsimp only[go_sem];refine aK (ia 1 aH) ?_;simp -dsimp only[go_sem];refine ao (qP 1) rfl ?_;simp -dsimp only[go_sem,u9]
theorem Ce:Fn Tryz.prog 190 [] [iM [(e0,1)]]:=by
 refine aJ (fn:=Tryz.f190) ?_;simp -dsimp only[go_sem];refine aK (ia 1 aH) ?_;simp -dsimp only[go_sem];refine ao (qP 1) rfl ?_;simp -dsimp only[go_sem,u9]
def Ex.at (e:Ex) (v:Nat):Int:=match v with|0=>e.a|1=>e.b|2=>e.c|_=>e.d
def Ex.to (e:Ex) (v:Nat) (n:Int):Ex:=match v with|0=>{ e with a:=n }|1=>{ e with b:=n }|2=>{ e with c:=n }|_=>{ e with d:=n }
theorem MS (v:Nat) (hv:v<4):Fn Tryz.prog 137 [iN v] [iM [(e0.to v 1,1)]]:=by
 obtain rfl|rfl|rfl|rfl:v=0\/v=1\/v=2\/v=3:=aw
 all_goals
  refine aJ (fn:=Tryz.f137) ?_;simp -dsimp only[go_sem];refine aK (ia 1 aH) ?_;simp -dsimp only[go_sem];rfl
def eC (p:List Tm) (c:Rat):List Tm:=if c=0 then[]else p.map fun t=>(t.1,t.2*c)
def gw:List Tm->List Tm->List Tm
 | [],b=>b
 | a,[]=>a
 | x::a,y::b=>if 0<cp x.1 y.1 then x::gw a (y::b)else if cp x.1 y.1<0 then y::gw (x::a) b else if x.2+y.2=0 then gw a b else(x.1,x.2+y.2)::gw a b
termination_by a b=>a.length+b.length
theorem hZ (b:List Tm):gw [] b=b:=by unfold gw;rfl
theorem jM (a:List Tm):gw a []=a:=by cases a<;>simp[gw]
theorem jN (x y:Tm) (a b:List Tm):gw (x::a) (y::b)=if 0<cp x.1 y.1 then x::gw a (y::b)else if cp x.1 y.1<0 then y::gw (x::a) b else if x.2+y.2=0 then gw a b else(x.1,x.2+y.2)::gw a b:=by
 rw[gw]
theorem d00:decide ((0:Int)<((0:Nat):Int))=false:=rfl
theorem yD (a b:List Tm) (hl:a.length+b.length<=1099511627776) (ha:∀ t∈a,QB 8589934592 t.2) (hb:∀ t∈b,QB 8589934592 t.2):Fn Tryz.prog 108 [iM a,iM b] [iM (gw a b)]:=by
 refine aJ (fn:=Tryz.f108) ?_;simp -dsimp only[go_sem,Int.reduceToNat]
 repeat(refine And.intro aw ?_)
 refine bt [(0,1),(5,7),(14,77)] [(7,7)] [(13,13),(51,51),(64,64),(75,75)] (fun n τ β ε=>∃(out a' b':List Tm),n=a'.length+b'.length/\gw a b=out++gw a' b'/\out.length+a'.length+b'.length<=a.length+b.length/\(∀ t∈a',QB 8589934592 t.2)/\(∀ t∈b',QB 8589934592 t.2) /\
   τ 0 = .i (iM a')/\τ 1 = .i (iM b')/\Own 8 (out.map eT) 5 13 τ ε)
  (fun e τ β ε=>e = .exit 0/\∃(out a' b':List Tm),gw a b=out++(a'++b')/\out.length+a'.length+b'.length<=a.length+b.length/\τ 0 = .i (iM a')/\τ 1 = .i (iM b')/\Own 8 (out.map eT) 5 13 τ ε) (a.length+b.length) ?_ ?_ ?_
 ·exact⟨[],a,b,rfl,rfl,au,ha,hb,rfl,rfl,Own.mk (g:=1) (mm:=true) aw rfl rfl rfl⟩
 ·rintro n τ β ε π hK hKB hKE ⟨out,a',b',hn,he,hlen,hqa,hqb,h0,h1,g,mm,hg,h5,h13⟩;have h5':τ 5 = .sl 13 g out.length:=by rw[h5,az]
  rcases ha':a' with _|⟨x,a1⟩
  ·have hA:¬ (0:Int)<(a'.length:Int):=by simp[ha']
   simp -dsimp only[go_sem,h0,h1,hA];exact⟨(aA hK),hKB,hKE,out,a',b',by rw[he,ha',hZ];rfl,hlen,by simp -dsimp only[go_sem,h0],by simp -dsimp only[go_sem,h1],Own.mk hg (by simp -dsimp only[go_sem];exact h5') au h13⟩
  have hA:(0:Int)<(a'.length:Int):=by simp[ha']
  rcases hb':b' with _|⟨y,b1⟩
  ·have hB:¬ (0:Int)<(b'.length:Int):=by simp[hb']
   simp -dsimp only[go_sem,h0,h1,hA,hB];exact⟨(aA hK),hKB,hKE,out,a',b',by rw[he,hb',jM,List.append_nil],hlen,by simp -dsimp only[go_sem,h0],by simp -dsimp only[go_sem,h1],Own.mk hg (by simp -dsimp only[go_sem];exact h5') au h13⟩
  have hB:(0:Int)<(b'.length:Int):=by simp[hb']
  have ga:a'[0]?=some x:=by simp[ha']
  have gb:b'[0]?=some y:=by simp[hb']
  have ta:(a'.map eT).drop 1=a1.map eT:=by rw[ha'];rfl
  have tb:(b'.map eT).drop 1=b1.map eT:=by rw[hb'];rfl
  have la:a'.length=a1.length+1:=by simp[ha']
  have lb':b'.length=b1.length+1:=by simp[hb']
  rw[ha',hb',jN]at he;simp -dsimp only[go_sem,h0,h1,hA,hB];refine ap 10 [] false true ?_;simp -dsimp only[go_sem,h0,h1,hA,hB,Int.reduceToNat,Int.reduceLE,true_and];refine aP ga ?_;simp -dsimp only[go_sem,h0,h1,hA,hB,Int.reduceToNat,Int.reduceLE,true_and];refine aP gb ?_;simp -dsimp only[go_sem,h0,h1,hA,hB,Int.reduceToNat,Int.reduceLE,true_and];refine ao (sC x.1 y.1) rfl ?_;by_cases c1:0<cp x.1 y.1
  ·rw[if_pos c1]at he;simp -dsimp only[go_sem,c1];refine ap 10 [] true false ?_;simp -dsimp only[go_sem,h0,h1,h5',h13,hg,Int.reduceToNat,Int.reduceLE,true_and];refine aP ga ?_;simp -dsimp only[go_sem,h0,h1,h5',h13,hg,Int.reduceToNat,Int.reduceLE,true_and,ta]
   repeat(refine And.intro aw ?_)
   refine be (a1.length+b'.length) 5 64 13 aw rfl rfl aw aH ⟨(aA hK),hKB,(aA hKE),out++[x],a1,b',rfl,?_,ar,fun t ht=>hqa t (by simp[ha',ht]),hqb,by simp -dsimp only[go_sem,ta],by simp -dsimp only[go_sem,h1],?_⟩
   ·rw[he,hb',List.append_assoc];rfl
   ·exact Own.mk2 (Nat.succ_pos _) (by simp -dsimp only[go_sem];rfl) (by simp -dsimp only[go_sem];rfl) au (by simp;rfl)
  ·rw[if_neg c1]at he;by_cases c2:cp x.1 y.1<0
   ·rw[if_pos c2]at he;simp -dsimp only[go_sem,c1,c2];refine ap 10 [] true false ?_;simp -dsimp only[go_sem,h0,h1,h5',h13,hg,Int.reduceToNat,Int.reduceLE,true_and];refine aP gb ?_;simp -dsimp only[go_sem,h0,h1,h5',h13,hg,Int.reduceToNat,Int.reduceLE,true_and,tb]
    repeat(refine And.intro aw ?_)
    refine be (a'.length+b1.length) 5 75 13 aw rfl rfl aw aH ⟨(aA hK),hKB,(aA hKE),out++[y],a',b1,rfl,?_,ar,hqa,fun t ht=>hqb t (by simp[hb',ht]),by simp -dsimp only[go_sem,h0],by simp -dsimp only[go_sem,tb],?_⟩
    ·rw[he,ha',List.append_assoc];rfl
    ·exact Own.mk2 (Nat.succ_pos _) (by simp -dsimp only[go_sem];rfl) (by simp -dsimp only[go_sem];rfl) au (by simp;rfl)
   ·rw[if_neg c2]at he;simp -dsimp only[go_sem,c1,c2];refine ap 10 [7] false true ?_;simp -dsimp only[go_sem,h0,h1,Int.reduceToNat,Int.reduceLE,true_and];refine aP ga ?_;simp -dsimp only[go_sem,h0,h1,Int.reduceToNat,Int.reduceLE,true_and];refine aP gb ?_;simp -dsimp only[go_sem,h0,h1,Int.reduceToNat,Int.reduceLE,true_and];refine ao (ET x.2 y.2 (hqa x (by simp[ha'])) (hqb y (by simp[hb']))) rfl ?_;simp -dsimp only[go_sem];refine ao (qE (x.2+y.2)) rfl ?_;by_cases c3:x.2+y.2=0
    ·rw[if_pos c3]at he;have e1:decide ((x.2+y.2).num.sign=0)=true:=by rw[ci];exact aF c3
     simp -dsimp only[go_sem,e1];refine ap 6 [] false true ?_;simp -dsimp only[go_sem,h0,h1,Int.reduceToNat,Int.reduceLE,true_and,ta,tb]
     repeat(refine And.intro aw ?_)
     refine again (a1.length+b1.length) aw ⟨(aA hK),(aA hKB),hKE,out,a1,b1,rfl,he,aw,fun t ht=>hqa t (by simp[ha',ht]),fun t ht=>hqb t (by simp[hb',ht]),by simp -dsimp only[go_sem,ta],by simp -dsimp only[go_sem,tb],Own.mk hg (by simp -dsimp only[go_sem];exact h5') au h13⟩
    ·rw[if_neg c3]at he;have e1:decide ((x.2+y.2).num.sign=0)=false:=by rw[ci];exact aG c3
     simp -dsimp only[go_sem,e1];refine ap 10 [] true false ?_;simp -dsimp only[go_sem,h0,h1,h5',h13,hg,Int.reduceToNat,Int.reduceLE,true_and];refine aP ga ?_;simp -dsimp only[go_sem,h0,h1,h5',h13,hg,Int.reduceToNat,Int.reduceLE,true_and]
     repeat(refine And.intro aw ?_)
     refine ap 6 [] false true ?_;simp -dsimp only[go_sem,h0,h1,Int.reduceToNat,Int.reduceLE,true_and,ta,tb]
     repeat(refine And.intro aw ?_)
     refine be (a1.length+b1.length) 5 51 13 aw rfl rfl aw aH ⟨(aA hK),(aA hKB),(aA hKE),out++[(x.1,x.2+y.2)],a1,b1,rfl,?_,ar,fun t ht=>hqa t (by simp[ha',ht]),fun t ht=>hqb t (by simp[hb',ht]),by simp -dsimp only[go_sem,ta],by simp -dsimp only[go_sem,tb],?_⟩
     ·rw[he,List.append_assoc];rfl
     ·exact Own.mk2 (Nat.succ_pos _) (by simp -dsimp only[go_sem];rfl) (by simp -dsimp only[go_sem];rfl) au (by simp;rfl)
 ·rintro e τ β ε π hK hKB hKE ⟨rfl,out,a',b',he,hlen,h0,h1,g,mm,hg,h5,h13⟩;rw[az]at h5;refine⟨_,bA.refl _,?_⟩;simp -dsimp only[go_sem,h0,h1,h5,h13];refine⟨hg,aw,au,aw,?_⟩;have hlen':(out.map eT++a'.map eT++b'.map eT).length<=out.length+a'.length+b'.length:=by simp;omega
  rw[List.take_of_length_le hlen',he];show some [IV.c (C.lst _)]=some [IV.c (C.lst ((out++(a'++b')).map eT))];rw[List.map_append,List.map_append,List.append_assoc]
theorem QB.mono' {k m:Nat} {q:Rat} (h:QB k q) (hk:k<=m):QB m q:=⟨ax h.1 hk,ax h.2 hk⟩
theorem QB.neg {k:Nat} {q:Rat} (h:QB k q):QB k (q * -1):=by
 have e:q * -1 = -q:=by grind
 rw[e];refine⟨?_,?_⟩
 ·rw[Rat.neg_num,show lb (-q.num)=lb q.num by simp[lb]];exact h.1
 ·rw[Rat.neg_den];exact h.2
def scI (a:List Tm) (c:Rat) (i:Nat):List Tm:=(a.take i).map (fun t=>(t.1,t.2*c))++a.drop i
theorem HV {a:List Tm} {c:Rat} {i:Nat} (h:i<a.length):(scI a c i).set i (a[i].1,a[i].2*c)=scI a c (i+1):=by
 rw[scI,List.set_append_right _ _ ar];simp only[az,List.length_take,Nat.min_eq_left (Nat.le_of_lt h),Nat.sub_self];rw[List.drop_eq_getElem_cons h,List.set_cons_zero,scI,aq h,List.map_append,List.append_assoc];rfl
theorem kk (a:List Tm) (c:Rat) (hl:a.length<=1099511627776) (ha:∀ t∈a,QB 17179869184 t.2) (hc:QB 17179869184 c):Fn Tryz.prog 120 [iM a,iQ c] [iM (eC a c)]:=by
 refine aJ (fn:=Tryz.f120) ?_;simp -dsimp only[go_sem];refine ao (qE c) rfl ?_;by_cases h:c=0
 ·have e1:decide (c.num.sign=0)=true:=by rw[ci];exact aF h
  simp -dsimp only[go_sem,e1];rw[eC,if_pos h];rfl
 ·have e1:decide (c.num.sign=0)=false:=by rw[ci];exact aG h
  simp -dsimp only[go_sem,e1];refine co (Bn (a.map eT) (D3 a) (by simpa using hl)) ?_;simp -dsimp only[go_sem];refine bt [(6,6),(14,28)] [] [(11,11)] (fun n τ β ε=>∃ i:Nat,n=a.length-i/\i<=a.length/\τ 14 = .i (iN i)/\ε 11=⟨1,8,(scI a c i).map eT,!a.isEmpty,true⟩)
   (fun e τ β ε=>e = .exit 0/\ε 11=⟨1,8,(scI a c a.length).map eT,!a.isEmpty,true⟩) a.length ?_ ?_ ?_
  ·exact⟨0,aw,aw,rfl,by simp -dsimp only[go_sem];simp[scI]⟩
  ·rintro n τ β ε π hK hKB hKE ⟨i,hn,hi,h14,h11⟩;have k5:τ 5 = .sl 11 1 a.length:=by rw[hK 5 aH];simp -dsimp only[go_sem,az]
   have k13:τ 13 = .i (iN a.length):=by rw[hK 13 aH];simp -dsimp only[go_sem,az]
   have kb:β 3=⟨1,eQ c⟩:=(hKB 3 rfl).trans rfl;have k3:τ 3 = .bp 3 1 0:=(hK 3 rfl).trans rfl;by_cases hlt:i<a.length
   ·have hA:(i:Int)<(a.length:Int):=aw;have hg:(scI a c i)[i]?=some a[i]:=by rw[scI,List.getElem?_append_right ar];simp[Nat.min_eq_left hi,hlt]
    have hm:(!a.isEmpty)=true:=by cases a<;>simp_all
    simp -dsimp only[go_sem,h14,k5,k13,hA];refine ap 11 [] false true ?_;simp -dsimp only[go_sem,h14,k5,k13,h11,kb,k3,hm];refine⟨hlt,aP hg ?_⟩;simp -dsimp only[go_sem,h14,k5,k13,h11,kb,k3,hm];refine aQ (args':=[iQ a[i].2,iQ c]) rfl (ES a[i].2 c (ha _ (List.getElem_mem _)) hc) ?_;simp -dsimp only[go_sem,h14,k5,k13,h11,kb,k3,hm];refine⟨hlt,aP hg ?_⟩;simp -dsimp only[go_sem,h14,k5,k13,h11,kb,k3,hm]
    repeat(refine And.intro aw ?_)
    refine again (a.length-(i+1)) aw ⟨(aA hK),hKB,(aA hKE),i+1,rfl,aw,rfl,?_⟩;simp -dsimp only[go_sem];rw[<-HV hlt,List.map_set];rfl
   ·have hA:¬ (i:Int)<(a.length:Int):=aw;obtain rfl:i=a.length:=aw;simp -dsimp only[go_sem,h14,k5,k13,hA];exact⟨(aA hK),hKB,hKE,h11⟩
  ·rintro e τ β ε π hK hKB hKE ⟨rfl,h11⟩;have k5:τ 5 = .sl 11 1 a.length:=by rw[hK 5 aH];simp -dsimp only[go_sem,az]
   refine⟨_,bA.refl _,?_⟩;simp -dsimp only[go_sem,h11,k5];rw[List.take_of_length_le (by simp[scI])];simp[scI,eC,h]
theorem pB (n:Nat) (h:2<=n):QB n (-1):=by
 have h1:(lb ((-1:Rat).num)).length<=1:=fI aH;have h2:(lb (((-1:Rat).den:Nat):Int)).length<=1:=fI aH;exact⟨aw,aw⟩
def FI (a b:List Tm):List Tm:=gw a (eC b (-1))
theorem jF (b:List Tm) {c:Rat} (h:c≠0):eC b c=b.map fun t=>(t.1,t.2*c):=if_neg h
theorem EV (a b:List Tm) (hl:a.length+b.length<=1099511627776) (ha:∀ t∈a,QB 8589934592 t.2) (hb:∀ t∈b,QB 8589934592 t.2):Fn Tryz.prog 113 [iM a,iM b] [iM (FI a b)]:=by
 refine aJ (fn:=Tryz.f113) ?_;simp -dsimp only[go_sem];refine aK (ia (-1) aH) ?_;simp -dsimp only[go_sem];refine aQ (args':=[iM b,iQ (-1)]) rfl (kk b (-1) aw (fun t ht=>QB.mono' (hb t ht) aw) (pB _ aw)) ?_;simp -dsimp only[go_sem];refine aQ (args':=[iM a,iM (eC b (-1))]) rfl (yD a (eC b (-1)) (by rw[jF b aH];simpa using hl) ha (fun t ht=>?_)) ?_
 ·rw[jF b aH]at ht;obtain⟨u,hu,rfl⟩:=List.mem_map.1 ht;exact QB.neg (hb u hu)
 simp -dsimp only[go_sem];rfl
theorem Gs (n:Nat):(nJ n).gen=0:=(rfl)
attribute [go_sem] Gs
def Ex.add (e f:Ex):Ex:=⟨e.a+f.a,e.b+f.b,e.c+f.c,e.d+f.d⟩
def Ex.part (e f:Ex) (i:Nat):Ex:=⟨if 0<i then e.a+f.a else e.a,if 1<i then e.b+f.b else e.b,if 2<i then e.c+f.c else e.c,if 3<i then e.d+f.d else e.d⟩
def rowM (x:Tm) (b:List Tm) (M:List Tm):List Tm:=b.foldl (fun M y=>addT M (x.1.add y.1) (x.2*y.2)) M
def sumM (a b:List Tm) (M:List Tm):List Tm:=a.foldl (fun M x=>rowM x b M) M
def Ge (a b:List Tm):List Tm:=vM (sumM a b [])
def Ex.lt (e:Ex) (n:Int):Prop:=(-n<e.a/\e.a<n)/\(-n<e.b/\e.b<n)/\(-n<e.c/\e.c<n)/\(-n<e.d/\e.d<n)
def rP (t:Nat) (M:List Tm) (π:Nat->MP):Prop:=(π t).gen=1/\(π t).of=none/\(π t).kv=kvE (eE M)/\∀ t',0<(π t').gen->(π t').of≠some t
theorem rP.put {t:Nat} {M M':List Tm} {π:Nat->MP} (h:rP t M π):rP t M' (upd π t { gen:=1,kv:=kvE (eE M') }):=by
 refine⟨by simp[upd],by simp[upd],by simp[upd],fun t' ht'=>?_⟩;simp only[bT]at ht' ⊢;split
 ·simp
 ·rename_i e;rw[if_neg e]at ht';exact h.2.2.2 t' ht'
theorem D0 (t:Nat) (π:Nat->MP) (h:∀ t',0<(π t').gen->(π t').of≠some t):rP t [] (upd π t { gen:=1,kv:=[] }):=by
 refine⟨by simp[upd],by simp[upd],by simp[upd];rfl,fun t' ht'=>?_⟩;simp only[bT]at ht' ⊢;split
 ·simp
 ·rename_i e;rw[if_neg e]at ht';exact h t' ht'
theorem vf (c:Rat) (e:Ex):∀ M:List Tm,((addT M e c).map (·.1))=if e∈M.map (·.1)then M.map (·.1)else M.map (·.1)++[e]
 | []=>by simp[addT]
 | (f,q)::M=>by
  simp only[addT];split
  ·rename_i h;simp[h]
  ·rename_i h;have h':¬ e=f:=h;simp only[List.map_cons,vf c e M,List.mem_cons];split
   ·rename_i h2;simp[h2]
   ·rename_i h2;rw[if_neg (by simp[h',h2])];rfl
theorem JZ (M:List Tm) (e:Ex) (c:Rat):(addT M e c).length<=M.length+1:=by
 have:=congrArg List.length (vf c e M);split at this<;>simp at this<;>omega
theorem ve {M:List Tm} (h:(M.map (·.1)).Nodup) (e:Ex) (c:Rat):((addT M e c).map (·.1)).Nodup:=by
 rw[vf];split
 ·exact h
 ·rename_i h2;refine List.nodup_append.2 ⟨h,au,?_⟩;intro a ha b hb e2;simp at hb;subst hb e2;exact h2 ha
theorem zA (x:Tm):∀(b M:List Tm),(rowM x b M).length<=M.length+b.length
 | [],M=>ay _
 | y::b,M=>by
  have h1:=zA x b (addT M (x.1.add y.1) (x.2*y.2));have h2:=JZ M (x.1.add y.1) (x.2*y.2);simp only[rowM,List.foldl_cons,List.length_cons]at h1 ⊢;omega
theorem ud (x:Tm):∀(b:List Tm) {M:List Tm},(M.map (·.1)).Nodup->((rowM x b M).map (·.1)).Nodup
 | [],_,h=>h
 | y::b,_,h=>ud x b (ve h (x.1.add y.1) (x.2*y.2))
theorem vX (b:List Tm):∀(a M:List Tm),(sumM a b M).length<=M.length+a.length*b.length
 | [],M=>by simp[sumM]
 | x::a,M=>by
  have h1:=vX b a (rowM x b M);have h2:=zA x b M;simp only[sumM,List.foldl_cons,List.length_cons,Nat.add_mul]at h1 ⊢;omega
theorem HO (a b:List Tm):(sumM a b []).length<=a.length*b.length:=by
 have:=vX b a [];simpa using this
theorem rY (b:List Tm):∀(a:List Tm) {M:List Tm},(M.map (·.1)).Nodup->((sumM a b M).map (·.1)).Nodup
 | [],_,h=>h
 | x::a,_,h=>rY b a (ud x b h)
theorem tV (a b:List Tm):((sumM a b []).map (·.1)).Nodup:=rY b a au
theorem yC (a b:List Tm) (hla:a.length<=1048576) (hlb:b.length<=1048576) (hea:∀ t∈a,t.1.lt 2305843009213693952) (heb:∀ t∈b,t.1.lt 2305843009213693952)
  (hqa:∀ t∈a,QB 17179869184 t.2) (hqb:∀ t∈b,QB 17179869184 t.2)
  (hq:∀(i j:Nat) (hi:i<a.length) (hj:j<b.length),QB 8589934592 (a[i].2*b[j].2)/\∀ e q,(e,q)∈rowM a[i] (b.take j) (sumM (a.take i) b [])->QB 8589934592 q):Fn Tryz.prog 111 [iM a,iM b] [iM (Ge a b)]:=by
 refine aJ (fn:=Tryz.f111) ?_;simp -dsimp only[go_sem];refine si (d:=12) (by intro t h;simp only[go_sem]at h<;>exact absurd h au) ?_;simp -dsimp only[go_sem];refine mu [(7,7),(9,11),(15,49)] [(7,7),(9,10)] [] (fun n τ β ε π=>∃ i:Nat,n=a.length-i/\i<=a.length/\τ 15 = .i (iN i)/\rP 12 (sumM (a.take i) b []) π)
  (fun e τ β ε π=>e = .exit 0/\rP 12 (sumM a b []) π) a.length ?_ ?_ ?_
 ·exact⟨0,aw,aw,rfl,by simp -dsimp only[go_sem];exact D0 _ _ (by simp[nJ])⟩
 ·rintro n τ β ε π hK hKB hKE ⟨i,hn,hi,h15,hM⟩;have k14:τ 14 = .i (iN a.length):=by rw[hK 14 aH];simp -dsimp only[go_sem,az]
  have k13:τ 13 = .i (iM a):=(hK 13 rfl).trans rfl;have k5:τ 5 = .mp 12 1:=(hK 5 rfl).trans rfl;have k1:τ 1 = .i (iM b):=(hK 1 rfl).trans rfl;by_cases hlt:i<a.length
  ·have hA:(i:Int)<(a.length:Int):=aw;have hg:a[i]?=some a[i]:=by simp[hlt]
   simp -dsimp only[go_sem,h15,k14,k13,hA];refine aP hg ?_;simp -dsimp only[go_sem,h15,k14,k13,hA,k1];refine mu [(9,11),(21,48)] [(9,10)] [] (fun n τ β ε π=>∃ j:Nat,n=b.length-j/\j<=b.length/\τ 21 = .i (iN j)/\rP 12 (rowM a[i] (b.take j) (sumM (a.take i) b [])) π)
    (fun e τ β ε π=>e = .exit 2/\rP 12 (rowM a[i] b (sumM (a.take i) b [])) π) b.length ?_ ?_ ?_
   ·exact⟨0,aw,aw,rfl,by simp -dsimp only[go_sem];exact hM⟩
   ·rintro n2 τ2 β2 ε2 π2 hK2 hKB2 hKE2 ⟨j,hn2,hj,h21,hM2⟩;have q20:τ2 20 = .i (iN b.length):=by rw[hK2 20 aH];simp -dsimp only[go_sem,az]
    have q19:τ2 19 = .i (iM b):=by rw[hK2 19 aH];simp -dsimp only[go_sem,k1]
    have q5:τ2 5 = .mp 12 1:=(hK2 5 rfl).trans k5;have q7:τ2 7 = .bp 7 ((β 7).gen+1) 0:=(hK2 7 rfl).trans rfl;have b7:β2 7=⟨(β 7).gen+1,eT a[i]⟩:=(hKB2 7 rfl).trans rfl;by_cases hlt2:j<b.length
    ·have hA2:(j:Int)<(b.length:Int):=aw;have hg2:b[j]?=some b[j]:=by simp[hlt2]
     simp -dsimp only[go_sem,h21,q20,q19,hA2];refine aP hg2 ?_;simp -dsimp only[go_sem,h21,q20,q19,hA2,q7,b7];refine mu [(11,11),(27,39)] [(10,10)] [] (fun n τ β ε π=>∃ k:Nat,n=4-k/\k<=4/\τ 27 = .i (iN k)/\β 10=⟨(β2 10).gen+1,(a[i].1.part b[j].1 k).cs⟩/\π=π2)
      (fun e τ β ε π=>e = .exit 4/\β 10=⟨(β2 10).gen+1,(a[i].1.add b[j].1).cs⟩/\π=π2) 4 ?_ ?_ ?_
     ·exact⟨0,aw,aw,rfl,rfl,rfl⟩
     ·rintro n3 τ3 β3 ε3 π3 hK3 hKB3 hKE3 ⟨k,hn3,hk,h27,hb10,rfl⟩;have r10:τ3 10 = .bp 10 ((β2 10).gen+1) 0:=(hK3 10 rfl).trans rfl;have r9:τ3 9 = .bp 9 ((β2 9).gen+1) 0:=(hK3 9 rfl).trans rfl;have c9:β3 9=⟨(β2 9).gen+1,eT b[j]⟩:=(hKB3 9 rfl).trans rfl;obtain rfl|rfl|rfl|rfl|rfl:k=4\/k=0\/k=1\/k=2\/k=3:=aw
      ·have h27':τ3 27 = .i (iN 4):=h27;simp -dsimp only[go_sem,h27',Int.reduceLT,decide_false];exact⟨(aA hK3),hKB3,hKE3,hb10⟩
      ·have h27':τ3 27 = .i (iN 0):=h27;have ex:=hea _ (List.getElem_mem hlt);have ey:=heb _ (List.getElem_mem hlt2);unfold Ex.lt at ex ey;simp -dsimp only[go_sem,h27',Int.reduceLT,decide_true];refine ap 9 [] false true ?_;simp -dsimp only[go_sem,h27',r10,r9,hb10,c9,Int.reduceToNat,Int.reduceLE,Int.reduceAdd,true_and,Ex.part,Nat.not_lt_zero,aC];refine⟨aw,?_⟩
       repeat(refine And.intro aw ?_)
       refine ki (4-1) aw ⟨(aA hK3),(aA hKB3),hKE3,1,rfl,aw,rfl,?_,rfl⟩;simp -dsimp only[go_sem,Ex.part,Nat.not_lt_zero]
      ·have h27':τ3 27 = .i (iN 1):=h27;have ex:=hea _ (List.getElem_mem hlt);have ey:=heb _ (List.getElem_mem hlt2);unfold Ex.lt at ex ey;simp -dsimp only[go_sem,h27',Int.reduceLT,decide_true];refine ap 9 [] false true ?_;simp -dsimp only[go_sem,h27',r10,r9,hb10,c9,Int.reduceToNat,Int.reduceLE,Int.reduceAdd,true_and,Ex.part,Nat.not_lt_zero,aC];refine⟨aw,?_⟩
       repeat(refine And.intro aw ?_)
       refine ki (4-2) aw ⟨(aA hK3),(aA hKB3),hKE3,2,rfl,aw,rfl,?_,rfl⟩;simp -dsimp only[go_sem,Ex.part,Nat.not_lt_zero]
      ·have h27':τ3 27 = .i (iN 2):=h27;have ex:=hea _ (List.getElem_mem hlt);have ey:=heb _ (List.getElem_mem hlt2);unfold Ex.lt at ex ey;simp -dsimp only[go_sem,h27',Int.reduceLT,decide_true];refine ap 9 [] false true ?_;simp -dsimp only[go_sem,h27',r10,r9,hb10,c9,Int.reduceToNat,Int.reduceLE,Int.reduceAdd,true_and,Ex.part,Nat.not_lt_zero,aC];refine⟨aw,?_⟩
       repeat(refine And.intro aw ?_)
       refine ki (4-3) aw ⟨(aA hK3),(aA hKB3),hKE3,3,rfl,aw,rfl,?_,rfl⟩;simp -dsimp only[go_sem,Ex.part,Nat.not_lt_zero]
      ·have h27':τ3 27 = .i (iN 3):=h27;have ex:=hea _ (List.getElem_mem hlt);have ey:=heb _ (List.getElem_mem hlt2);unfold Ex.lt at ex ey;simp -dsimp only[go_sem,h27',Int.reduceLT,decide_true];refine ap 9 [] false true ?_;simp -dsimp only[go_sem,h27',r10,r9,hb10,c9,Int.reduceToNat,Int.reduceLE,Int.reduceAdd,true_and,Ex.part,Nat.not_lt_zero,aC];refine⟨aw,?_⟩
       repeat(refine And.intro aw ?_)
       refine ki (4-4) aw ⟨(aA hK3),(aA hKB3),hKE3,4,rfl,aw,rfl,?_,rfl⟩;simp -dsimp only[go_sem,Ex.part,Nat.not_lt_zero]
     ·rintro e τ3 β3 ε3 π3 hK3 hKB3 hKE3 ⟨rfl,hb10,rfl⟩;refine⟨_,bA.refl _,?_⟩;have r5:τ3 5 = .mp 12 1:=(hK3 5 rfl).trans q5;have r10:τ3 10 = .bp 10 ((β2 10).gen+1) 0:=(hK3 10 rfl).trans rfl;have r9:τ3 9 = .bp 9 ((β2 9).gen+1) 0:=(hK3 9 rfl).trans rfl;have r7:τ3 7 = .bp 7 ((β 7).gen+1) 0:=(hK3 7 rfl).trans q7;have r21:τ3 21 = .i (iN j):=(hK3 21 rfl).trans h21;have c9:β3 9=⟨(β2 9).gen+1,eT b[j]⟩:=(hKB3 9 rfl).trans rfl;have c7:β3 7=⟨(β 7).gen+1,eT a[i]⟩:=(hKB3 7 rfl).trans b7;have kO:=Kp.step2 hK2 hK3 (by intro n;simp[inR]<;>omega) (aA hK2);have kB:=Kp.step2 hKB2 hKB3 (by intro n;simp[inR]<;>omega) (aA hKB2);have kE:=Kp.step2 hKE2 hKE3 (by intro n;simp[inR]) hKE2;obtain⟨hq1,hq2⟩:=hq i j hlt hlt2;simp -dsimp only[go_sem,r5,r10,r9,r7,c9,c7,hb10];refine ap 7 [] false true ?_;simp -dsimp only[go_sem,r5,r10,r9,r7,c9,c7,hb10];refine aQ (args':=[iQ a[i].2,iQ b[j].2]) rfl (ES _ _ (hqa _ (List.getElem_mem _)) (hqb _ (List.getElem_mem _))) ?_;simp -dsimp only[go_sem];refine mD (t:=12) (g:=1) (args:=[iE (a[i].1.add b[j].1),iQ (a[i].2*b[j].2)]) rfl rfl rfl rfl (by simp -dsimp only[go_sem,hM2.1]) aw (by simp -dsimp only[go_sem,hM2.2.1]) (by simp -dsimp only[go_sem];exact hM2.2.2.2) rfl (by simp -dsimp only[go_sem,hM2.2.2.1];exact wt _ _ _ (fun q hm=>hq2 _ _ hm) hq1) ?_;simp -dsimp only[go_sem,r21]
      repeat(refine And.intro aw ?_)
      refine ki (b.length-(j+1)) aw ⟨(aA kO),kB,kE,j+1,rfl,aw,rfl,?_⟩;rw[aq hlt2,rowM,List.foldl_append];exact hM2.put
    ·have hA2:¬ (j:Int)<(b.length:Int):=aw;obtain rfl:j=b.length:=aw;rw[List.take_length]at hM2;simp -dsimp only[go_sem,h21,q20,hA2];exact⟨(aA hK2),hKB2,hKE2,hM2⟩
   ·rintro e τ2 β2 ε2 π2 hK2 hKB2 hKE2 ⟨rfl,hM2⟩;refine⟨_,bA.refl _,?_⟩;have q15:τ2 15 = .i (iN i):=(hK2 15 rfl).trans h15;simp -dsimp only[go_sem,q15]
    repeat(refine And.intro aw ?_)
    have kO:=Kp.step2 hK hK2 (by intro n;simp[inR]<;>omega) (aA hK);have kB:=Kp.step2 hKB hKB2 (by intro n;simp[inR]<;>omega) (aA hKB);have kE:=Kp.step2 hKE hKE2 (by intro n;simp[inR]) hKE;refine ki (a.length-(i+1)) aw ⟨(aA kO),kB,kE,i+1,rfl,aw,rfl,?_⟩;rw[aq hlt,sumM,List.foldl_append];exact hM2
  ·have hA:¬ (i:Int)<(a.length:Int):=aw;obtain rfl:i=a.length:=aw;rw[List.take_length]at hM;simp -dsimp only[go_sem,h15,k14,hA];exact⟨(aA hK),hKB,hKE,hM⟩
 ·rintro e τ β ε π hK hKB hKE ⟨rfl,hM⟩;refine⟨_,bA.refl _,?_⟩;have k5:τ 5 = .mp 12 1:=(hK 5 rfl).trans rfl;simp -dsimp only[go_sem,k5];refine mD (t:=12) (g:=1) (args:=[]) rfl rfl rfl rfl (by simp -dsimp only[go_sem,hM.1]) aw (by simp -dsimp only[go_sem,hM.2.1]) (by simp -dsimp only[go_sem];exact hM.2.2.2) rfl (by simp -dsimp only[go_sem,hM.2.2.1];exact va _ (tV a b) (ax (HO a b) (ax (Nat.mul_le_mul hla hlb) aH))) ?_;simp -dsimp only[go_sem];rfl
def gu (a:List Tm) (v:Nat):Int:=a.foldl (fun m t=>max m (t.1.at v)) (-1)
theorem wM (a:List Tm) (t:Tm) (v:Nat):gu (a++[t]) v=max (gu a v) (t.1.at v):=by simp[gu]
theorem yP (a:List Tm) (v:Nat) (hv:v<4) (hl:a.length<=1099511627776):Fn Tryz.prog 123 [iM a,iN v] [iN (gu a v)]:=by
 refine aJ (fn:=Tryz.f123) ?_;simp -dsimp only[go_sem];refine a8 [(5,5),(7,7),(10,20)] [(7,7)] [] (fun n τ β ε=>∃ i:Nat,n=a.length-i/\i<=a.length/\τ 10 = .i (iN i)/\τ 5 = .i (iN (gu (a.take i) v)))
  (fun e τ β ε=>e = .exit 0/\τ 5 = .i (iN (gu a v))) a.length ?_ ?_ ?_
 ·exact⟨0,aw,aw,rfl,rfl⟩
 ·rintro n τ β ε π hK hKB hKE ⟨i,hn,hi,h10,h5⟩;have k8:τ 8 = .i (iM a):=(hK 8 rfl).trans rfl;have k9:τ 9 = .i (iN a.length):=by rw[hK 9 aH];simp -dsimp only[go_sem,az]
  have k1:τ 1 = .i (iN v):=(hK 1 rfl).trans rfl;by_cases hlt:i<a.length
  ·have hA:(i:Int)<(a.length:Int):=aw;have hg:a[i]?=some a[i]:=by simp[hlt]
   have hd:gu (a.take (i+1)) v=max (gu (a.take i) v) (a[i].1.at v):=by rw[aq hlt,wM]
   simp -dsimp only[go_sem,h10,k9,k8,hA];refine aP hg ?_;obtain rfl|rfl|rfl|rfl:v=0\/v=1\/v=2\/v=3:=aw
   ·have k1':τ 1 = .i (iN 0):=k1;simp -dsimp only[go_sem,h10,h5,k9,k8,k1',hA,Int.reduceToNat,Int.reduceLE,aC]
    repeat(refine And.intro aw ?_)
    refine again (a.length-(i+1)) aw ⟨(aA hK),(aA hKB),hKE,i+1,rfl,aw,rfl,?_⟩;simp -dsimp only[go_sem,hd];rfl
   ·have k1':τ 1 = .i (iN 1):=k1;simp -dsimp only[go_sem,h10,h5,k9,k8,k1',hA,Int.reduceToNat,Int.reduceLE,aC]
    repeat(refine And.intro aw ?_)
    refine again (a.length-(i+1)) aw ⟨(aA hK),(aA hKB),hKE,i+1,rfl,aw,rfl,?_⟩;simp -dsimp only[go_sem,hd];rfl
   ·have k1':τ 1 = .i (iN 2):=k1;simp -dsimp only[go_sem,h10,h5,k9,k8,k1',hA,Int.reduceToNat,Int.reduceLE,aC]
    repeat(refine And.intro aw ?_)
    refine again (a.length-(i+1)) aw ⟨(aA hK),(aA hKB),hKE,i+1,rfl,aw,rfl,?_⟩;simp -dsimp only[go_sem,hd];rfl
   ·have k1':τ 1 = .i (iN 3):=k1;simp -dsimp only[go_sem,h10,h5,k9,k8,k1',hA,Int.reduceToNat,Int.reduceLE,aC]
    repeat(refine And.intro aw ?_)
    refine again (a.length-(i+1)) aw ⟨(aA hK),(aA hKB),hKE,i+1,rfl,aw,rfl,?_⟩;simp -dsimp only[go_sem,hd];rfl
  ·have hA:¬ (i:Int)<(a.length:Int):=aw;obtain rfl:i=a.length:=aw;rw[List.take_length]at h5;simp -dsimp only[go_sem,h10,k9,hA];exact⟨(aA hK),hKB,hKE,h5⟩
 ·rintro e τ β ε π hK hKB hKE ⟨rfl,h5⟩;simp -dsimp only[go_sem,h5]
def cH (a:List Tm) (v:Nat) (k:Nat):List Tm:=(a.filter fun t=>decide (t.1.at v=(k:Int))).map fun t=>(t.1.to v 0,t.2)
def xD (L:List Tm):List C:=if L=[]then[.v (.slice none 0 0)]else[cM L]
def qq (a:List Tm) (v:Nat):List (List Tm):=(List.range (gu a v+1).toNat).map (cH a v)
theorem BW (L:List Tm):(xD L).map nw=[cM L]:=by
 unfold xD;split
 ·rename_i h;subst h;rfl
 ·rfl
theorem tc (a:List Tm) (v:Nat):∀ t∈a,t.1.at v<=gu a v:=by
 have:∀(l:List Tm) (m:Int),m<=l.foldl (fun m t=>max m (t.1.at v)) m/\∀ t∈l,t.1.at v<=l.foldl (fun m t=>max m (t.1.at v)) m:=by
  intro l
  induction l with
  | nil=>intro m;exact⟨Int.le_refl _,au⟩
  | cons x l ih =>
   intro m;simp only[List.foldl_cons];have h:=ih (max m (x.1.at v));refine⟨aw,fun t ht=>?_⟩;rcases List.mem_cons.1 ht with rfl|ht
   ·omega
   ·exact h.2 t ht
 exact(this a (-1)).2
theorem ye {a:List Tm} {v:Nat} {n:Int} (h:∀ t∈a,t.1.at v<=n) (h0 : -1<=n):gu a v<=n:=by
 have:∀(l:List Tm) (m:Int),m<=n->(∀ t∈l,t.1.at v<=n)->l.foldl (fun m t=>max m (t.1.at v)) m<=n:=by
  intro l
  induction l with
  | nil=>intro m hm _;exact hm
  | cons x l ih=>intro m hm h;exact ih _ (by have:=h x au;show max m (x.1.at v)<=n;omega) fun t ht=>h t (by simp[ht])
 exact this a (-1) h0 h
theorem JG (a:List Tm) (v:Nat) : -1<=gu a v:=by
 have:∀(l:List Tm) (m:Int),m<=l.foldl (fun m t=>max m (t.1.at v)) m:=by
  intro l
  induction l with
  | nil=>intro m;exact Int.le_refl _
  | cons x l ih=>intro m;have:=ih (max m (x.1.at v));simp only[List.foldl_cons];omega
 exact this a (-1)
theorem FP {a:List Tm} {v n i:Nat} (hlt:i<a.length) {k:Nat} (hk:a[i].1.at v=k) (hnil:cH (a.take i) v k=[]) :
  ((List.range n).map fun k=>xD (cH (a.take i) v k)).set k [cM [(a[i].1.to v 0,a[i].2)]]=(List.range n).map fun k=>xD (cH (a.take (i+1)) v k):=by
 have hs:∀ j:Nat,cH (a.take (i+1)) v j=cH (a.take i) v j++if a[i].1.at v=j then[(a[i].1.to v 0,a[i].2)]else[]:=fun j=>by
  rw[aq hlt,cH,List.filter_append,List.map_append];congr 1;by_cases h:a[i].1.at v=(j:Int)<;>simp[h]
 refine List.ext_getElem au fun j h1 h2=>?_;rw[List.getElem_set];simp only[List.getElem_map,List.getElem_range];split
 ·rename_i e;subst e;rw[hs,hnil,if_pos hk,List.nil_append];rfl
 ·rename_i e;rw[hs,if_neg (by rw[hk];omega),List.append_nil]
theorem xe (a:List Tm) (v:Nat) (hv:v<4) (hl:a.length<=1099511627776) (he:∀ t∈a,0<=t.1.at v/\t.1.at v<1099511627776) (hn:(a.map (·.1.at v)).Nodup) (ha0:a≠[]) :
  FnM Tryz.prog 89 [iM a,iN v] 1 ((qq a v).map fun L=>[cM L]):=by
 have hd1:=JG a v;have hd2:gu a v<=1099511627775:=ye (fun t ht=>by have:=he t ht;omega) aw;refine rS kd (fn:=Tryz.f89) av rfl rfl rfl av au av ?_;simp -dsimp only[go_sem];refine ao (yP a v hv hl) rfl ?_;simp -dsimp only[go_sem]
 repeat(refine And.intro aw ?_)
 refine bt [(7,8),(16,37)] [(7,7)] [(13,13),(35,35)] (fun n τ β ε=>∃ i:Nat,n=a.length-i/\i<=a.length/\τ 16 = .i (iN i) /\
   ε 13=⟨1,1,(List.range (gu a v+1).toNat).map (fun k=>xD (cH (a.take i) v k)),true,true⟩)
  (fun e τ β ε=>e = .exit 0/\ε 13=⟨1,1,(List.range (gu a v+1).toNat).map (fun k=>xD (cH a v k)),true,true⟩) a.length ?_ ?_ ?_
 ·refine⟨0,aw,aw,rfl,?_⟩;simp -dsimp only[go_sem];refine congrArg (fun l=>EN.mk 1 1 l true true) ?_;rw[show(fun k:Nat=>xD (cH [] v k))=fun _=>[.v (.slice none 0 0)]from rfl,List.map_const',List.length_range]
 ·rintro n τ β ε π hK hKB hKE ⟨i,hn',hi,h16,h13⟩;have k14:τ 14 = .i (iM a):=(hK 14 rfl).trans rfl;have k15:τ 15 = .i (iN a.length):=by rw[hK 15 aH];simp -dsimp only[go_sem,az]
  have k1:τ 1 = .i (iN v):=(hK 1 rfl).trans rfl;have k5:τ 5 = .sl 13 1 (gu a v+1).toNat:=(hK 5 rfl).trans rfl;by_cases hlt:i<a.length
  ·have hA:(i:Int)<(a.length:Int):=aw;have hg:a[i]?=some a[i]:=by simp[hlt]
   have hm:=List.getElem_mem hlt;obtain⟨he1,he2⟩:=he _ hm;have hdg:=tc a v _ hm;obtain⟨k,hk⟩:∃ k:Nat,a[i].1.at v=k:=⟨(a[i].1.at v).toNat,aw⟩;have hkn:k<(gu a v+1).toNat:=aw;have hnil:cH (a.take i) v k=[]:=by
    unfold cH;rw[List.map_eq_nil_iff,List.filter_eq_nil_iff];intro t ht;obtain⟨j,hj,rfl⟩:=List.getElem_of_mem ht;simp only[List.length_take]at hj;rw[List.getElem_take];have h3:=(List.pairwise_iff_getElem.1 hn) j i ar ar aw;simp only[List.getElem_map,hk]at h3;simpa using h3
   have hrow:(List.range (gu a v+1).toNat)[k]?=some k:=List.getElem?_range hkn;have hr0:xD (cH (a.take i) v k)=[.v (.slice none 0 0)]:=by rw[hnil];rfl
   have hset:=FP (n:=(gu a v+1).toNat) hlt hk hnil;simp -dsimp only[go_sem,h16,k15,k14,hA];refine aP hg ?_;obtain rfl|rfl|rfl|rfl:v=0\/v=1\/v=2\/v=3:=aw
   ·have k1':τ 1 = .i (iN 0):=k1;have hk':a[i].1.a=k:=hk;simp -dsimp only[go_sem,h16,k15,k14,k1',k5,hA,Int.reduceToNat,Int.reduceLE,aC,hk'];refine js av 10 [] [35] 35 av av aE ?_;simp -dsimp only[go_sem,h16,k15,k14,k1',k5,hA,h13];refine⟨hkn,aP hrow ?_⟩;simp -dsimp only[go_sem,h16,k15,k14,k1',k5,hA,h13,hr0,List.drop_zero];refine⟨hkn,aP hrow ?_⟩;simp -dsimp only[go_sem,h16,hr0]
    repeat(refine And.intro aw ?_)
    refine again (a.length-(i+1)) aw ⟨(aA hK),(aA hKB),(aA hKE),i+1,rfl,aw,rfl,?_⟩;simp -dsimp only[go_sem,h13];rw[<-hset];refine congrArg (fun l=>EN.mk 1 1 l true true) ?_;refine congrArg (fun x=>List.set _ _ x) ?_;simp only[cM,List.map_cons,List.map_nil,Aq,Ex.to,hk']
   ·have k1':τ 1 = .i (iN 1):=k1;have hk':a[i].1.b=k:=hk;simp -dsimp only[go_sem,h16,k15,k14,k1',k5,hA,Int.reduceToNat,Int.reduceLE,aC,hk'];refine js av 10 [] [35] 35 av av aE ?_;simp -dsimp only[go_sem,h16,k15,k14,k1',k5,hA,h13];refine⟨hkn,aP hrow ?_⟩;simp -dsimp only[go_sem,h16,k15,k14,k1',k5,hA,h13,hr0,List.drop_zero];refine⟨hkn,aP hrow ?_⟩;simp -dsimp only[go_sem,h16,hr0]
    repeat(refine And.intro aw ?_)
    refine again (a.length-(i+1)) aw ⟨(aA hK),(aA hKB),(aA hKE),i+1,rfl,aw,rfl,?_⟩;simp -dsimp only[go_sem,h13];rw[<-hset];refine congrArg (fun l=>EN.mk 1 1 l true true) ?_;refine congrArg (fun x=>List.set _ _ x) ?_;simp only[cM,List.map_cons,List.map_nil,Aq,Ex.to,hk']
   ·have k1':τ 1 = .i (iN 2):=k1;have hk':a[i].1.c=k:=hk;simp -dsimp only[go_sem,h16,k15,k14,k1',k5,hA,Int.reduceToNat,Int.reduceLE,aC,hk'];refine js av 10 [] [35] 35 av av aE ?_;simp -dsimp only[go_sem,h16,k15,k14,k1',k5,hA,h13];refine⟨hkn,aP hrow ?_⟩;simp -dsimp only[go_sem,h16,k15,k14,k1',k5,hA,h13,hr0,List.drop_zero];refine⟨hkn,aP hrow ?_⟩;simp -dsimp only[go_sem,h16,hr0]
    repeat(refine And.intro aw ?_)
    refine again (a.length-(i+1)) aw ⟨(aA hK),(aA hKB),(aA hKE),i+1,rfl,aw,rfl,?_⟩;simp -dsimp only[go_sem,h13];rw[<-hset];refine congrArg (fun l=>EN.mk 1 1 l true true) ?_;refine congrArg (fun x=>List.set _ _ x) ?_;simp only[cM,List.map_cons,List.map_nil,Aq,Ex.to,hk']
   ·have k1':τ 1 = .i (iN 3):=k1;have hk':a[i].1.d=k:=hk;simp -dsimp only[go_sem,h16,k15,k14,k1',k5,hA,Int.reduceToNat,Int.reduceLE,aC,hk'];refine js av 10 [] [35] 35 av av aE ?_;simp -dsimp only[go_sem,h16,k15,k14,k1',k5,hA,h13];refine⟨hkn,aP hrow ?_⟩;simp -dsimp only[go_sem,h16,k15,k14,k1',k5,hA,h13,hr0,List.drop_zero];refine⟨hkn,aP hrow ?_⟩;simp -dsimp only[go_sem,h16,hr0]
    repeat(refine And.intro aw ?_)
    refine again (a.length-(i+1)) aw ⟨(aA hK),(aA hKB),(aA hKE),i+1,rfl,aw,rfl,?_⟩;simp -dsimp only[go_sem,h13];rw[<-hset];refine congrArg (fun l=>EN.mk 1 1 l true true) ?_;refine congrArg (fun x=>List.set _ _ x) ?_;simp only[cM,List.map_cons,List.map_nil,Aq,Ex.to,hk']
  ·have hA:¬ (i:Int)<(a.length:Int):=aw;obtain rfl:i=a.length:=aw;rw[List.take_length]at h13;simp -dsimp only[go_sem,h16,k15,hA];exact⟨(aA hK),hKB,hKE,h13⟩
 ·rintro e τ β ε π hK hKB hKE ⟨rfl,h13⟩;refine⟨_,bA.relax _ 13,?_⟩;have k5:τ 5 = .sl 13 1 (gu a v+1).toNat:=(hK 5 rfl).trans rfl;simp -dsimp only[go_sem,k5,h13];have hpos:0<=gu a v:=by
   obtain⟨t,ht⟩:=List.exists_mem_of_ne_nil a ha0;have:=tc a v t ht;have:=(he t ht).1;omega
  have hne:(qq a v).isEmpty=false:=by
   cases hc:qq a v with
   | nil=>have:=congrArg List.length hc;simp[qq]at this;omega
   | cons _ _=>rfl
  refine⟨13,1,?_,aw,?_⟩
  ·simp[qq]
  ·rw[if_pos rfl,List.map_map];have e1:((fun x=>List.map nw x)∘fun k=>xD (cH a v k))=fun k=>[cM (cH a v k)]:=funext fun k=>BW _;rw[e1];simp only[List.isEmpty_map,hne,Bool.not_false];refine congrArg (fun l=>EN.mk 1 1 l true true) ?_;simp[qq]
end Go.AM
