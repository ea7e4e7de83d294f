/- Lemmas, part 12 of 23. No condition. -/
import Derived.Test.YtcmfkhicjhliaaaGreatPZ510
set_option maxRecDepth 65536
set_option linter.unusedSimpArgs false
set_option linter.unusedVariables false
set_option linter.unusedSectionVars false
namespace Alg
theorem aG {p:Prop} [Decidable p] (h:¬p):decide p=false:=decide_eq_false h
theorem aF {p:Prop} [Decidable p] (h:p):decide p=true:=decide_eq_true h
theorem aD {α:Type} {l:List α} {i:Nat} (h:i<l.length):l[i]?=some l[i]:=List.getElem?_eq_getElem h
theorem aq {α:Type} {l:List α} {i:Nat} (h:i<l.length):l.take (i+1)=l.take i++[l[i]]:=List.take_succ_eq_append_getElem h
theorem ax {a b c:Nat} (h:a<=b) (h':b<=c):a<=c:=Nat.le_trans h h'
theorem ay (n:Nat):n<=n:=Nat.le_refl n
theorem az {α β:Type} {l:List α} (f:α->β):(l.map f).length=l.length:=List.length_map f
theorem aC:(∀ p:Prop,(True/\p)=p)/\(∀(α:Type) (l:List α),l.drop 0=l)/\∀(α:Type) (a:α) (l:List α) (n:Nat),(a::l).drop (n+1)=l.drop n:=⟨true_and,fun _ _=>rfl,fun _ _ _ _=>rfl⟩
theorem aw {p:Prop} (h:p:=by omega ):p:=h
theorem av {p:Prop} (h:p:=by rfl ):p:=h
theorem aH {p:Prop} (h:p:=by decide ):p:=h
theorem aE {p:Prop} (h:p:=by decide +kernel ):p:=h
theorem au {p:Prop} (h:p:=by simp ):p:=h
theorem ar {p:Prop} (h:p:=by simp;omega ):p:=h
class CR (R:Type) extends Add R,Mul R,Neg R,Sub R,Zero R,One R where
 add_assoc:∀ a b c:R,a+b+c=a+(b+c)
 add_comm:∀ a b:R,a+b=b+a
 add_zero:∀ a:R,a+0=a
 neg_add:∀ a:R,-a+a=0
 sub_eq:∀ a b:R,a-b=a + -b
 mul_assoc:∀ a b c:R,a*b*c=a*(b*c)
 mul_comm:∀ a b:R,a*b=b*a
 mul_one:∀ a:R,a*1=a
 mul_add:∀ a b c:R,a*(b+c)=a*b+a*c
section
variable {R:Type} [CR R]
theorem add_assoc (a b c:R):a+b+c=a+(b+c):=CR.add_assoc a b c
theorem add_comm (a b:R):a+b=b+a:=CR.add_comm a b
theorem gh (a b c:R):a+(b+c)=b+(a+c):=by rw[<-add_assoc,add_comm a,add_assoc]
theorem add_zero (a:R):a+0=a:=CR.add_zero a
theorem zero_add (a:R):0+a=a:=by rw[add_comm,add_zero]
theorem neg_add (a:R) : -a+a=0:=CR.neg_add a
theorem jB (a:R):a + -a=0:=by rw[add_comm,neg_add]
theorem sub_eq (a b:R):a-b=a + -b:=CR.sub_eq a b
theorem mul_assoc (a b c:R):a*b*c=a*(b*c):=CR.mul_assoc a b c
theorem mul_comm (a b:R):a*b=b*a:=CR.mul_comm a b
theorem dE (a b c:R):a*(b*c)=b*(a*c):=by rw[<-mul_assoc,mul_comm a,mul_assoc]
theorem mul_one (a:R):a*1=a:=CR.mul_one a
theorem one_mul (a:R):1*a=a:=by rw[mul_comm,mul_one]
theorem mul_add (a b c:R):a*(b+c)=a*b+a*c:=CR.mul_add a b c
theorem add_mul (a b c:R):(a+b)*c=a*c+b*c:=by rw[mul_comm,mul_add,mul_comm c,mul_comm c]
theorem gm {a b c:R} (h:a+b=a+c):b=c:=by
 have:=congrArg (fun x => -a+x) h;simpa only[<-add_assoc,neg_add,zero_add]using this
theorem rJ {a b c:R} (h:b+a=c+a):b=c:=by
 rw[add_comm b,add_comm c]at h;exact gm h
theorem mul_zero (a:R):a*0=0:=by
 have h:a*0+a*0=a*0+0:=by rw[<-mul_add,add_zero,add_zero]
 exact gm h
theorem zero_mul (a:R):0*a=0:=by rw[mul_comm,mul_zero]
theorem fA {a b:R} (h:a+b=0):a = -b:=by
 apply rJ (a:=b);rw[h,neg_add]
theorem gS : -(0:R)=0:=(fA (by rw[add_zero])).symm
theorem neg_neg (a:R) : - -a=a:=(fA (jB a)).symm
theorem zQ (a b:R) : -(a+b) = -a + -b:=by
 symm;apply fA;rw[add_assoc,gh (-b),neg_add,add_zero,neg_add]
theorem neg_mul (a b:R) : -a*b = -(a*b):=by
 apply fA;rw[<-add_mul,neg_add,zero_mul]
theorem mul_neg (a b:R):a * -b = -(a*b):=by rw[mul_comm,neg_mul,mul_comm]
theorem sub_self (a:R):a-a=0:=by rw[sub_eq,jB]
theorem fT {a b:R} (h:a-b=0):a=b:=by
 rw[sub_eq]at h;have:=fA h;rw[neg_neg]at this;exact this
theorem sub_zero (a:R):a-0=a:=by rw[sub_eq,gS,add_zero]
def nc:Nat->R
 | 0=>0
 | n+1=>nc n+1
def ic:Int->R
 | .ofNat n=>nc n
 | .negSucc n => -(nc n+1)
theorem rp (a b:Nat):(nc (a+b):R)=nc a+nc b:=by
 induction b with
 | zero=>simp only[nc,Nat.add_zero,add_zero]
 | succ b ih=>rw[Nat.add_succ];simp only[nc];rw[ih,add_assoc]
theorem Jg (n:Nat):(ic (n:Int):R)=nc n:=rfl
theorem Jh (a:Int):(ic (-a):R) = -ic a:=by
 cases a with
 | ofNat n =>
  cases n with
  | zero=>show(nc 0:R) = -nc 0;simp only[nc,gS]
  | succ n=>rfl
 | negSucc n=>show(nc (n+1):R)=_;simp only[ic,neg_neg,nc]
theorem qj (a b:Nat):(ic (Int.subNatNat a b):R)=nc a + -nc b:=by
 rcases Nat.lt_or_ge a b with h|h
 ·obtain⟨k,rfl⟩:=Nat.exists_eq_add_of_lt h;rw[show Int.subNatNat a (a+k+1)=Int.negSucc k from by simp[Int.subNatNat,show a+k+1-a=k+1 from by omega]];simp only[ic];rw[Nat.add_assoc,rp a (k+1),zQ (nc a),<-add_assoc,jB,zero_add];simp only[nc]
 ·obtain⟨k,rfl⟩:=Nat.exists_eq_add_of_le h;rw[show Int.subNatNat (b+k) b=Int.ofNat k from by simp[Int.subNatNat]];simp only[ic];rw[rp,add_comm (nc b),add_assoc,jB,add_zero]
theorem uK (a b:Int):(ic (a+b):R)=ic a+ic b:=by
 cases a with
 | ofNat a=>cases b with
  | ofNat b=>exact rp a b
  | negSucc b=>show(ic (Int.subNatNat a (b+1)):R)=_;rw[qj];rfl
 | negSucc a=>cases b with
  | ofNat b=>show(ic (Int.subNatNat b (a+1)):R)=_;rw[qj,add_comm];rfl
  | negSucc b =>
   show -(nc (a+b+1)+1) = -(nc a+1) + -(nc b+1);rw[<-zQ,rp,rp];congr 1;simp only[nc,zero_add];rw[add_assoc,add_assoc,add_assoc,gh 1]
theorem uJ (a:Int) (b:Nat):(ic (a*b):R)=ic a*nc b:=by
 induction b with
 | zero=>simp only[Int.natCast_zero,Int.mul_zero,nc,mul_zero];rfl
 | succ b ih=>rw[Int.natCast_succ,Int.mul_add,Int.mul_one,uK,ih];simp only[nc];rw[mul_add,mul_one]
theorem O9 (a b:Int):(ic (a*b):R)=ic a*ic b:=by
 cases b with
 | ofNat b=>exact uJ a b
 | negSucc b =>
  rw[Int.negSucc_eq,Int.mul_neg,Jh,Jh,<-Int.natCast_succ,uJ,mul_neg];rfl
theorem pj:(ic 1:R)=1:=by show(nc 1:R)=1;simp only[nc,zero_add]
theorem x7:(ic 0:R)=0:=rfl
def pw (a:R):Nat->R
 | 0=>1
 | n+1=>pw a n*a
theorem xG (a:R) (m n:Nat):pw a (m+n)=pw a m*pw a n:=by
 induction n with
 | zero=>simp only[pw,Nat.add_zero,mul_one]
 | succ n ih=>rw[Nat.add_succ];simp only[pw];rw[ih,mul_assoc]
theorem BZ (a:R):pw a 1=a:=by simp only[pw,one_mul]
theorem IL (a b:R) (n:Nat):pw (a*b) n=pw a n*pw b n:=by
 induction n with
 | zero=>simp only[pw,mul_one]
 | succ n ih=>simp only[pw];rw[ih,mul_assoc,mul_assoc,dE (pw b n)]
end
inductive E where
 | v (i:Nat)
 | n (z:Int)
 | add (a b:E)
 | sub (a b:E)
 | mul (a b:E)
 | neg (a:E)
 | pw (a:E) (k:Nat)
section
variable {R:Type} [CR R]
def at' (l:List R) (n:Nat):R:=match l,n with
 | [],_=>0
 | a::_,0=>a
 | _::l,n+1=>at' l n
def E.den (l:List R):E->R
 | .v i=>at' l i
 | .n z=>ic z
 | .add a b=>a.den l+b.den l
 | .sub a b=>a.den l-b.den l
 | .mul a b=>a.den l*b.den l
 | .neg a => -a.den l
 | .pw a k=>Alg.pw (a.den l) k
def mden (l:List R):List Nat->R
 | []=>1
 | v::m=>at' l v*mden l m
def pden (l:List R):List (List Nat×Int)->R
 | []=>0
 | (m,c)::p=>ic c*mden l m+pden l p
end
def mlt:List Nat->List Nat->Bool
 | [],[]=>false
 | [],_::_=>true
 | _::_,[]=>false
 | a::l,b::m=>Nat.blt a b || (Nat.beq a b && mlt l m)
def L0 (v:Nat):List Nat->List Nat
 | []=>[v]
 | w::m=>bif Nat.ble v w then v::w::m else w::L0 v m
def mmul:List Nat->List Nat->List Nat
 | [],m=>m
 | v::l,m=>L0 v (mmul l m)
def qh (m:List Nat) (c:Int):List (List Nat×Int)->List (List Nat×Int)
 | []=>if c=0 then[]else[(m,c)]
 | (m',c')::p=>if m=m' then(if c+c'=0 then p else(m',c+c')::p)
  else bif mlt m m' then(m',c')::qh m c p else(if c=0 then(m',c')::p else(m,c)::(m',c')::p)
def padd:List (List Nat×Int)->List (List Nat×Int)->List (List Nat×Int)
 | [],q=>q
 | (m,c)::p,q=>qh m c (padd p q)
def pmul1 (m:List Nat) (c:Int):List (List Nat×Int)->List (List Nat×Int)
 | []=>[]
 | (m',c')::p=>qh (mmul m m') (c*c') (pmul1 m c p)
def pmul:List (List Nat×Int)->List (List Nat×Int)->List (List Nat×Int)
 | [],_=>[]
 | (m,c)::p,q=>padd (pmul1 m c q) (pmul p q)
def ppw (p:List (List Nat×Int)):Nat->List (List Nat×Int)
 | 0=>[([],1)]
 | n+1=>pmul (ppw p n) p
def E.norm:E->List (List Nat×Int)
 | .v i=>[([i],1)]
 | .n z=>if z=0 then[]else[([],z)]
 | .add a b=>padd a.norm b.norm
 | .sub a b=>padd a.norm (pmul [([],-1)] b.norm)
 | .mul a b=>pmul a.norm b.norm
 | .neg a=>pmul [([],-1)] a.norm
 | .pw a k=>ppw a.norm k
section
variable {R:Type} [CR R] (l:List R)
theorem Jd (v:Nat) (m:List Nat):mden l (L0 v m)=at' l v*mden l m:=by
 induction m with
 | nil=>rfl
 | cons w m ih =>
  simp only[L0];cases Nat.ble v w with
  | true=>rfl
  | false=>simp only[cond_false,mden,ih];rw[dE]
theorem IQ (a b:List Nat):mden l (mmul a b)=mden l a*mden l b:=by
 induction a with
 | nil=>simp only[mmul,mden,one_mul]
 | cons v a ih=>simp only[mmul,Jd,mden,ih];rw[mul_assoc]
theorem Ag (m:List Nat) (c:Int) (p:List (List Nat×Int)):pden l (qh m c p)=ic c*mden l m+pden l p:=by
 induction p with
 | nil =>
  simp only[qh];split
  ·rename_i h;subst h;simp only[pden,x7,zero_mul,add_zero]
  ·rfl
 | cons x p ih =>
  obtain⟨m',c'⟩:=x;simp only[qh];split
  ·rename_i h;subst h;split
   ·rename_i h;simp only[pden];rw[<-add_assoc,<-add_mul,<-uK,h,x7,zero_mul,zero_add]
   ·simp only[pden];rw[uK,add_mul,add_assoc]
  ·cases mlt m m' with
   | true=>simp only[cond_true,pden,ih];rw[gh]
   | false =>
    simp only[cond_false];split
    ·rename_i h;subst h;simp only[pden,x7,zero_mul,zero_add]
    ·rfl
theorem um (p q:List (List Nat×Int)):pden l (padd p q)=pden l p+pden l q:=by
 induction p with
 | nil=>simp only[padd,pden,zero_add]
 | cons x p ih=>obtain⟨m,c⟩:=x;simp only[padd,Ag,ih,pden];rw[add_assoc]
theorem F5 (m:List Nat) (c:Int) (p:List (List Nat×Int)):pden l (pmul1 m c p)=ic c*mden l m*pden l p:=by
 induction p with
 | nil=>simp only[pmul1,pden,mul_zero]
 | cons x p ih =>
  obtain⟨m',c'⟩:=x;simp only[pmul1,Ag,ih,pden,IQ];rw[O9,mul_add];congr 1;rw[mul_assoc,mul_assoc,dE (ic c')]
theorem pV (p q:List (List Nat×Int)):pden l (pmul p q)=pden l p*pden l q:=by
 induction p with
 | nil=>simp only[pmul,pden,zero_mul]
 | cons x p ih=>obtain⟨m,c⟩:=x;simp only[pmul,um,F5,ih,pden];rw[add_mul]
theorem IU:pden l [([],-1)] = -1:=by
 simp only[pden,mden,mul_one,add_zero];show -(nc 0+1) = -1;simp only[nc,zero_add]
theorem Lt:pden l [([],1)]=1:=by
 simp only[pden,mden,mul_one,add_zero,pj]
theorem Lo (p:List (List Nat×Int)) (n:Nat):pden l (ppw p n)=pw (pden l p) n:=by
 induction n with
 | zero=>exact Lt l
 | succ n ih=>simp only[ppw,pV,ih,pw]
theorem E.norm_den (e:E):pden l e.norm=e.den l:=by
 induction e with
 | v n=>simp only[E.norm,pden,mden,E.den,mul_one,add_zero,pj,one_mul]
 | n z =>
  simp only[E.norm];split
  ·rename_i h;subst h;rfl
  ·simp only[pden,mden,mul_one,add_zero,E.den]
 | add a b iha ihb=>simp only[E.norm,um,iha,ihb,E.den]
 | sub a b iha ihb=>simp only[E.norm,um,pV,IU,iha,ihb,E.den];rw[neg_mul,one_mul,sub_eq]
 | mul a b iha ihb=>simp only[E.norm,pV,iha,ihb,E.den]
 | neg a iha=>simp only[E.norm,pV,IU,iha,E.den];rw[neg_mul,one_mul]
 | pw a k iha=>simp only[E.norm,Lo,iha,E.den]
end
class At {R:Type} [CR R] (l:List R) (a:R) (n:outParam Nat):Prop where
 eq:at' l n=a
class ig {R:Type} [CR R] (l:List R) (t:R) (e:outParam E):Prop where
 eq:e.den l=t
section
variable {R:Type} [CR R] {l:List R} {a b:R} {e f:E}
instance (priority:=200) at_zero:At (a::l) a 0:=⟨rfl⟩
instance (priority:=100) at_succ {n:Nat} [h:At l a n]:At (b::l) a (n+1):=⟨h.eq⟩
instance (priority:=50) rf_at {n:Nat} [h:At l a n]:ig l a (.v n):=⟨h.eq⟩
instance rf_add [h:ig l a e] [h':ig l b f]:ig l (a+b) (.add e f):=⟨by rw[E.den,h.eq,h'.eq]⟩
instance rf_sub [h:ig l a e] [h':ig l b f]:ig l (a-b) (.sub e f):=⟨by rw[E.den,h.eq,h'.eq]⟩
instance rf_mul [h:ig l a e] [h':ig l b f]:ig l (a*b) (.mul e f):=⟨by rw[E.den,h.eq,h'.eq]⟩
instance rf_neg [h:ig l a e]:ig l (-a) (.neg e):=⟨by rw[E.den,h.eq]⟩
instance rf_pw {k:Nat} [h:ig l a e]:ig l (pw a k) (.pw e k):=⟨by rw[E.den,h.eq]⟩
instance rf_zero:ig l (0:R) (.n 0):=⟨rfl⟩
instance rf_one:ig l (1:R) (.n 1):=⟨pj⟩
instance rf_ic {z:Int}:ig l (ic z:R) (.n z):=⟨rfl⟩
theorem ring (l:List R) {s t:R} {e f:E} [h1:ig l s e] [h2:ig l t f] (h:e.norm=f.norm:=by decide +kernel):s=t:=by
 rw[<-h1.eq,<-h2.eq,<-E.norm_den,<-E.norm_den,h]
theorem lc1 {s t a b:R} (k:R) (h:a=b) (e:s-t=k*(a-b)):s=t:=by
 rw[h,sub_self,mul_zero]at e;exact fT e
theorem lc2 {s t a b c d:R} (k m:R) (h:a=b) (h':c=d) (e:s-t=k*(a-b)+m*(c-d)):s=t:=by
 rw[h,h',sub_self,sub_self,mul_zero,mul_zero,add_zero]at e;exact fT e
end
example {R:Type} [CR R] (a b c:R):(a+b)*(a-b)*c=a*a*c-pw b 2*c:=ring [a,b,c]
example {R:Type} [CR R] (a b c:R) (h:a=b*c):a*c-b*c*c=0:=lc1 c h (ring [a,b,c])
section
variable {R:Type} [CR R]
def tri (f:Nat->Nat->R):Nat->R
 | 0=>f 0 0
 | n+1=>f 0 (n+1)+tri (fun i j=>f (i+1) j) n
theorem eB {f g:Nat->Nat->R} {n:Nat} (h:∀ i j,i+j=n->f i j=g i j):tri f n=tri g n:=by
 induction n generalizing f g with
 | zero=>exact h 0 0 rfl
 | succ n ih=>simp only[tri];rw[h 0 (n+1) aw,ih fun i j e=>h (i+1) j aw]
theorem HH (n:Nat):tri (fun _ _=>(0:R)) n=0:=by
 induction n with
 | zero=>rfl
 | succ n ih=>simp only[tri,ih,add_zero]
theorem iV {f:Nat->Nat->R} {n:Nat} (h:∀ i j,i+j=n->f i j=0):tri f n=0:=by
 rw[eB h,HH]
theorem xr (f g:Nat->Nat->R) (n:Nat):tri (fun i j=>f i j+g i j) n=tri f n+tri g n:=by
 induction n generalizing f g with
 | zero=>rfl
 | succ n ih=>simp only[tri,ih];exact ring [f 0 (n+1),g 0 (n+1),tri (fun i j=>f (i+1) j) n,tri (fun i j=>g (i+1) j) n]
theorem sW (a:R) (f:Nat->Nat->R) (n:Nat):tri (fun i j=>a*f i j) n=a*tri f n:=by
 induction n generalizing f with
 | zero=>rfl
 | succ n ih=>simp only[tri,ih,mul_add]
theorem zf (f:Nat->Nat->R) (n:Nat):tri f (n+1)=tri (fun i j=>f i (j+1)) n+f (n+1) 0:=by
 induction n generalizing f with
 | zero=>rfl
 | succ n ih =>
  have e:tri f (n+1+1)=f 0 (n+2)+tri (fun i j=>f (i+1) j) (n+1):=rfl;rw[e,ih];simp only[tri,add_assoc]
theorem ze (f:Nat->Nat->R) (n:Nat):tri (fun i j=>f j i) n=tri f n:=by
 induction n generalizing f with
 | zero=>rfl
 | succ n ih=>rw[zf,ih fun i j=>f (i+1) j,add_comm];rfl
theorem FD (g:Nat->Nat->Nat->R) (n:Nat):tri (fun i j=>tri (fun p q=>g p q j) i) n=tri (fun p m=>tri (fun q j=>g p q j) m) n:=by
 induction n generalizing g with
 | zero=>rfl
 | succ n ih =>
  have e:tri (fun i j=>tri (fun p q=>g p q j) i) (n+1)=g 0 0 (n+1)+tri (fun i j=>g 0 (i+1) j+tri (fun p q=>g (p+1) q j) i) n:=rfl;rw[e,xr,ih fun p q j=>g (p+1) q j,<-add_assoc];rfl
structure P (R:Type) [CR R] where
 c:Nat->R
 fin:∃ n,∀ i,n<=i->c i=0
theorem P.ext {p q:P R} (h:∀ i,p.c i=q.c i):p=q:=by
 cases p;cases q;have:=funext h;simp at this;subst this;rfl
instance:Add (P R):=⟨fun p q=>⟨fun i=>p.c i+q.c i,by
 obtain⟨n,hn⟩:=p.fin;obtain⟨m,hm⟩:=q.fin;exact⟨n+m,fun i hi=>by rw[hn i aw,hm i aw,add_zero]⟩⟩⟩
instance:Neg (P R):=⟨fun p=>⟨fun i => -p.c i,by
 obtain⟨n,hn⟩:=p.fin;exact⟨n,fun i hi=>by rw[hn i hi,gS]⟩⟩⟩
instance:Sub (P R):=⟨fun p q=>⟨fun i=>p.c i-q.c i,by
 obtain⟨n,hn⟩:=p.fin;obtain⟨m,hm⟩:=q.fin;exact⟨n+m,fun i hi=>by rw[hn i aw,hm i aw,sub_zero]⟩⟩⟩
instance:Mul (P R):=⟨fun p q=>⟨tri fun i j=>p.c i*q.c j,by
 obtain⟨n,hn⟩:=p.fin;obtain⟨m,hm⟩:=q.fin;refine⟨n+m,fun k hk=>iV fun i j e=>?_⟩;rcases Nat.lt_or_ge i n with h|h
 ·rw[hm j aw,mul_zero]
 ·rw[hn i h,zero_mul]⟩⟩
def an (a:R):P R:=⟨fun i=>match i with|0=>a|_+1=>0,⟨1,fun i hi=>by cases i with|zero=>omega|succ i=>rfl⟩⟩
instance:Zero (P R):=⟨⟨fun _=>0,⟨0,fun _ _=>rfl⟩⟩⟩
instance:One (P R):=⟨an 1⟩
theorem ce (p q:P R) (i:Nat):(p+q).c i=p.c i+q.c i:=rfl
theorem wT (p:P R) (i:Nat):(-p).c i = -p.c i:=rfl
theorem i9 (p q:P R) (i:Nat):(p-q).c i=p.c i-q.c i:=rfl
theorem iq (p q:P R) (i:Nat):(p*q).c i=tri (fun i j=>p.c i*q.c j) i:=rfl
theorem C5 (i:Nat):(0:P R).c i=0:=rfl
theorem nV (a:R):(an a).c 0=a:=rfl
theorem hY (a:R) (i:Nat):(an a).c (i+1)=0:=rfl
theorem Is:(1:P R)=an 1:=rfl
theorem bS (a:R) (p:P R) (n:Nat):(an a*p).c n=a*p.c n:=by
 rw[iq];cases n with
 | zero=>rfl
 | succ n =>
  show a*p.c (n+1)+tri (fun i j=>(0:R)*p.c j) n=_;rw[iV fun i j _=>zero_mul _,add_zero]
instance:CR (P R) where
 add_assoc p q r:=P.ext fun i=>add_assoc _ _ _
 add_comm p q:=P.ext fun i=>add_comm _ _
 add_zero p:=P.ext fun i=>add_zero _
 neg_add p:=P.ext fun i=>neg_add _
 sub_eq p q:=P.ext fun i=>sub_eq _ _
 mul_comm p q:=P.ext fun i=>by
  rw[iq,iq,<-ze];exact eB fun i j _=>mul_comm _ _
 mul_assoc p q r:=P.ext fun i=>by
  rw[iq,iq];simp only[iq];rw[eB (g:=fun i j=>tri (fun a b=>p.c a*q.c b*r.c j) i) fun i j _=>by rw[mul_comm,<-sW];exact eB fun a b _=>mul_comm _ _];rw[eB (f:=fun i j=>p.c i*_) (g:=fun i m=>tri (fun a b=>p.c i*q.c a*r.c b) m) fun i j _=>by rw[<-sW];exact eB fun a b _=>(mul_assoc _ _ _).symm];exact FD (fun a b j=>p.c a*q.c b*r.c j) i
 mul_one p:=P.ext fun i=>by
  rw[iq,<-ze];have:=bS 1 p i;rw[iq,one_mul]at this;rw[<-this];exact eB fun i j _=>mul_comm _ _
 mul_add p q r:=P.ext fun i=>by
  simp only[iq,ce,mul_add];rw[xr]
theorem xf (a b:R):an (a+b)=an a+an b:=P.ext fun i=>by cases i with|zero=>rfl|succ i=>exact(add_zero _).symm
theorem bC (a b:R):an (a*b)=an a*an b:=P.ext fun i=>by
 rw[bS];cases i with
 | zero=>rfl
 | succ i=>exact(mul_zero _).symm
theorem kM (a:R):an (-a) = -an a:=P.ext fun i=>by cases i with|zero=>rfl|succ i=>exact gS.symm
theorem N0 (a b:R):an (a-b)=an a-an b:=P.ext fun i=>by cases i with|zero=>rfl|succ i=>exact(sub_zero _).symm
theorem cC:an (0:R)=0:=P.ext fun i=>by cases i<;>rfl
theorem bP:an (1:R)=1:=rfl
theorem N3 {a b:R} (h:an a=an b):a=b:=congrArg (fun p=>p.c 0) h
theorem P1 (n:Nat):an (nc n:R)=nc n:=by
 induction n with
 | zero=>exact cC
 | succ n ih=>simp only[nc];rw[xf,ih,bP]
theorem Ni (n:Int):an (ic n:R)=ic n:=by
 cases n with
 | ofNat n=>exact P1 n
 | negSucc n=>show an (-(nc n+1)) = -(nc n+1);rw[kM,xf,P1,bP]
theorem ol (a:R) (p:P R) (n:Nat):(p*an a).c n=p.c n*a:=by rw[mul_comm,bS,mul_comm]
def mon (n:Nat) (a:R):P R:=⟨fun i=>if i=n then a else 0,⟨n+1,fun i hi=>if_neg aw⟩⟩
def ak:P R:=mon 1 1
theorem bY (n:Nat) (a:R) (i:Nat):(mon n a).c i=if i=n then a else 0:=rfl
theorem du (a:R):mon 0 a=an a:=P.ext fun i=>by cases i<;>simp[bY,an]
theorem Cj {n i:Nat} (a:R) (p:P R) (h:i<n):(mon n a*p).c i=0:=by
 rw[iq];refine iV fun i j e=>?_;rw[bY,if_neg aw,zero_mul]
theorem zS (n i:Nat) (a:R) (p:P R):(mon n a*p).c (n+i)=a*p.c i:=by
 rw[iq]
 induction n with
 | zero =>
  rw[Nat.zero_add];have:=bS a p i;rw[<-du,iq]at this;exact this
 | succ n ih =>
  rw[show n+1+i=(n+i)+1 from by omega];show(mon (n+1) a).c 0*_+tri _ (n+i)=_;rw[bY,if_neg aw,zero_mul,zero_add,<-ih];exact eB fun i j _=>by simp[bY]
theorem cu (n i:Nat) (a:R) (p:P R):(mon n a*p).c i=if n<=i then a*p.c (i-n)else 0:=by
 split
 ·rename_i h;obtain⟨k,rfl⟩:=Nat.exists_eq_add_of_le h;rw[zS,Nat.add_sub_cancel_left]
 ·exact Cj a p aw
theorem dV (n m:Nat) (a b:R):mon n a*mon m b=mon (n+m) (a*b):=P.ext fun i=>by
 rw[cu];split
 ·rename_i h;rw[bY,bY];by_cases h':i=n+m
  ·rw[if_pos aw,if_pos h']
  ·rw[if_neg aw,if_neg h',mul_zero]
 ·rw[bY,if_neg aw]
theorem xS (n:Nat) (a b:R):mon n (a+b)=mon n a+mon n b:=P.ext fun i=>by
 rw[ce,bY,bY,bY];split<;>simp only[add_zero]
theorem jH (n:Nat):mon n (0:R)=0:=P.ext fun i=>by rw[bY,C5];split<;>rfl
theorem uU (p:Nat->Prop) (h:∃ n,p n):∃ n,p n/\∀ m,p m->n<=m:=by
 obtain⟨n,hn⟩:=h
 induction n using Nat.strongRecOn with
 | _ n ih =>
  rcases Classical.em (∃ m,m<n/\p m)with⟨m,hm,hp⟩|h
  ·exact ih m hm hp
  ·exact⟨n,hn,fun m hm=>Nat.le_of_not_lt fun hl=>h ⟨m,hl,hm⟩⟩
noncomputable def aa (p:P R):Nat:=Classical.choose (uU _ p.fin)
theorem aO {p:P R} {i:Nat} (h:aa p<=i):p.c i=0:=(Classical.choose_spec (uU _ p.fin)).1 i h
theorem cm {p:P R} {n:Nat} (h:∀ i,n<=i->p.c i=0):aa p<=n:=(Classical.choose_spec (uU _ p.fin)).2 n h
theorem kD {p:P R} (h:aa p≠0):p.c (aa p-1)≠0:=by
 intro h0;have:=cm (p:=p) (n:=aa p-1) fun i hi=>by
  rcases Nat.lt_or_ge i (aa p)with h1|h1
  ·rw[show i=aa p-1 from by omega];exact h0
  ·exact aO h1
 omega
theorem jU {p:P R} {n:Nat} (h1:∀ i,n<=i->p.c i=0) (h2:n≠0->p.c (n-1)≠0):aa p=n:=by
 have:=cm h1;rcases Nat.lt_or_ge (aa p) n with h|h
 ·exact absurd (aO aw) (h2 aw)
 ·omega
theorem QY {p:P R} {i:Nat} (h:p.c i≠0):i<aa p:=by
 rcases Nat.lt_or_ge i (aa p)with h1|h1
 ·exact h1
 ·exact absurd (aO h1) h
theorem aM {p:P R}:aa p=0↔p=0:=by
 constructor
 ·intro h;exact P.ext fun i=>aO aw
 ·rintro rfl;exact jU (fun _ _=>rfl) (fun h=>absurd rfl h)
noncomputable def lc (p:P R):R:=p.c (aa p-1)
theorem bN {p:P R} (h:p≠0):lc p≠0:=kD fun h'=>h (aM.1 h')
theorem aR {p:P R} (h:p≠0):0<aa p:=Nat.pos_of_ne_zero fun h'=>h (aM.1 h')
theorem jf {a:R} (h:a≠0):aa (an a)=1:=jU (fun i hi=>by cases i with|zero=>omega|succ i=>rfl) (fun _=>h)
theorem dS {p:P R} (h:aa p<=1):p=an (p.c 0):=P.ext fun i=>by
 cases i with
 | zero=>rfl
 | succ i=>rw[hY];exact aO aw
theorem nj (n:Nat) {a:R} (h:a≠0):aa (mon n a)=n+1:=jU (fun i hi=>by rw[bY,if_neg aw]) (fun _=>by rw[bY,if_pos aw];exact h)
theorem d9 {a:R} (h:a≠0):an a≠0:=fun e=>h (N3 (e.trans cC.symm))
theorem mV (a:R):lc (an a)=a:=by
 rcases Classical.em (a=0)with rfl|h
 ·rw[cC];rfl
 ·unfold lc;rw[jf h];rfl
theorem kQ (p:P R):aa (-p)=aa p:=by
 refine jU (fun i hi=>by rw[wT,aO hi,gS]) (fun h h'=>kD h ?_);rw[wT]at h';rw[<-neg_neg (p.c _),h',gS]
theorem dh {p q:P R} {n:Nat} (h:aa p<=n) (h':aa q<=n):aa (p+q)<=n:=cm fun i hi=>by
 rw[ce,aO aw,aO aw,add_zero]
theorem gB {p q:P R} {n:Nat} (h:aa p<=n) (h':aa q<=n):aa (p-q)<=n:=cm fun i hi=>by
 rw[i9,aO aw,aO aw,sub_zero]
theorem up (p q:P R):(p*q).c ((aa p-1)+(aa q-1))=lc p*lc q:=by
 rw[iq];have key:∀(n m:Nat) (f:Nat->Nat->R),(∀ i j,i+j=n+m->i≠n->f i j=0)->tri f (n+m)=f n m:=by
  intro n
  induction n with
  | zero =>
   intro m f h;rw[Nat.zero_add];cases m with
   | zero=>rfl
   | succ m =>
    show f 0 (m+1)+tri _ m=_;rw[iV fun i j e=>h (i+1) j aw aw,add_zero]
  | succ n ih =>
   intro m f h;rw[show n+1+m=(n+m)+1 from by omega];show f 0 (n+m+1)+tri _ (n+m)=_;rw[h 0 _ aw aw,zero_add,ih m (fun i j=>f (i+1) j) fun i j e hi=>h (i+1) j aw aw]
 rw[key (aa p-1) (aa q-1)]
 ·rfl
 ·intro i j e hi;rcases Nat.lt_or_ge i (aa p-1)with h|h
  ·rw[aO (p:=q) aw,mul_zero]
  ·rw[aO (p:=p) aw,zero_mul]
theorem qa {p q:P R} {i:Nat} (h:aa p+aa q-1<=i):(p*q).c i=0:=by
 rw[iq];refine iV fun a b e=>?_;rcases Nat.lt_or_ge a (aa p)with h1|h1
 ·rw[aO (p:=q) aw,mul_zero]
 ·rw[aO h1,zero_mul]
theorem bf (p q:P R):aa (p*q)<=aa p+aa q-1:=cm fun _=>qa
end
class Dom (R:Type) [CR R]:Prop where
 one_ne:(1:R)≠0
 zero_of_mul:∀ a b:R,a*b=0->a=0\/b=0
section
variable {R:Type} [CR R] [Dom R]
theorem one_ne:(1:R)≠0:=Dom.one_ne
theorem zero_of_mul {a b:R} (h:a*b=0):a=0\/b=0:=Dom.zero_of_mul a b h
theorem a6 {a b:R} (ha:a≠0) (hb:b≠0):a*b≠0:=fun h=>(zero_of_mul h).elim ha hb
theorem cD {a b c:R} (ha:a≠0) (h:a*b=a*c):b=c:=by
 have:a*(b-c)=0:=by
  have:a*(b-c)=a*b-a*c:=ring [a,b,c];rw[this,h,sub_self]
 exact fT ((zero_of_mul this).resolve_left ha)
theorem ru {a b c:R} (ha:a≠0) (h:b*a=c*a):b=c:=by
 rw[mul_comm b,mul_comm c]at h;exact cD ha h
theorem DS {a:R} (ha:a≠0) (n:Nat):pw a n≠0:=by
 induction n with
 | zero=>exact one_ne
 | succ n ih=>exact a6 ih ha
theorem dz {p q:P R} (hp:p≠0) (hq:q≠0):aa (p*q)=aa p+aa q-1:=by
 have h1:=aR hp;have h2:=aR hq;refine jU (fun _=>qa) fun _=>?_;rw[show aa p+aa q-1-1=(aa p-1)+(aa q-1)from by omega,up];exact a6 (bN hp) (bN hq)
theorem gU (p q:P R):lc (p*q)=lc p*lc q:=by
 rcases Classical.em (p=0)with rfl|hp
 ·rw[zero_mul];show lc (0:P R)=(0:P R).c _*_;rw[C5,zero_mul];rfl
 rcases Classical.em (q=0)with rfl|hq
 ·rw[mul_zero];show lc (0:P R)=_*(0:P R).c _;rw[C5,mul_zero];rfl
 have h1:=aR hp;have h2:=aR hq;rw[<-up];unfold lc;rw[dz hp hq,show aa p+aa q-1-1=(aa p-1)+(aa q-1)from by omega]
instance:Dom (P R) where
 one_ne h:=one_ne (R:=R) (congrArg (fun p=>p.c 0) h)
 zero_of_mul p q h:=by
  rcases Classical.em (p=0)with hp|hp
  ·exact .inl hp
  rcases Classical.em (q=0)with hq|hq
  ·exact .inr hq
  have:=a6 (bN hp) (bN hq);rw[<-gU,h]at this;exact absurd rfl this
theorem bW {a:R} (h:a≠0) (p:P R):aa (an a*p)=aa p:=by
 rcases Classical.em (p=0)with rfl|hp
 ·rw[mul_zero]
 ·rw[dz (fun e=>h (N3 (e.trans cC.symm))) hp,jf h];omega
end
end Alg
namespace Alg
open Classical
section
variable {R:Type} [CR R]
def Dv (a b:R):Prop:=∃ c,b=a*c
theorem Dv.refl (a:R):Dv a a:=⟨1,(mul_one a).symm⟩
theorem Dv.trans {a b c:R}:Dv a b->Dv b c->Dv a c:=fun⟨x,hx⟩ ⟨y,hy⟩=>⟨x*y,by rw[hy,hx,mul_assoc]⟩
theorem Dv.zero (a:R):Dv a 0:=⟨0,(mul_zero a).symm⟩
theorem Dv.one (a:R):Dv 1 a:=⟨a,(one_mul a).symm⟩
theorem Dv.mul_right {a b:R} (h:Dv a b) (c:R):Dv a (b*c):=by
 obtain⟨x,rfl⟩:=h;exact⟨x*c,by rw[mul_assoc]⟩
theorem Dv.mul_left {a b:R} (h:Dv a b) (c:R):Dv a (c*b):=by rw[mul_comm];exact h.mul_right c
theorem Dv.add {a b c:R} (h:Dv a b) (h':Dv a c):Dv a (b+c):=by
 obtain⟨x,rfl⟩:=h;obtain⟨y,rfl⟩:=h';exact⟨x+y,by rw[mul_add]⟩
theorem Dv.neg {a b:R} (h:Dv a b):Dv a (-b):=by
 obtain⟨x,rfl⟩:=h;exact⟨-x,by rw[mul_neg]⟩
theorem Dv.sub {a b c:R} (h:Dv a b) (h':Dv a c):Dv a (b-c):=by rw[sub_eq];exact h.add h'.neg
theorem Dv.mul {a b c d:R} (h:Dv a b) (h':Dv c d):Dv (a*c) (b*d):=by
 obtain⟨x,rfl⟩:=h;obtain⟨y,rfl⟩:=h';exact⟨x*y,ring [a,c,x,y]⟩
theorem Dv.of_add {a b c:R} (h:Dv a (b+c)) (h':Dv a b):Dv a c:=by
 have:=h.sub h';rwa [show b+c-b=c from ring [b,c]]at this
def IsG (g a b:R):Prop:=Dv g a/\Dv g b/\∀ d,Dv d a->Dv d b->Dv d g
def Cop (a b:R):Prop:=∀ d,Dv d a->Dv d b->Dv d 1
theorem IsG.symm {g a b:R} (h:IsG g a b):IsG g b a:=⟨h.2.1,h.1,fun d x y=>h.2.2 d y x⟩
theorem Cop.symm {a b:R} (h:Cop a b):Cop b a:=fun d x y=>h d y x
end
class sU (R:Type) [CR R]:Prop where
 ex:∀ a b:R,∃ g,IsG g a b
section
variable {R:Type} [CR R] [Dom R]
theorem Dv.cancel {a b c:R} (ha:a≠0) (h:Dv (a*b) (a*c)):Dv b c:=by
 obtain⟨x,hx⟩:=h;exact⟨x,cD ha (by rw[hx,mul_assoc])⟩
theorem Dv.ne {a b:R} (h:Dv a b) (hb:b≠0):a≠0:=by
 rintro rfl;obtain⟨x,hx⟩:=h;rw[zero_mul]at hx;exact hb hx
variable [sU R]
theorem Ma {a b c g h:R} (hg:IsG g a b) (hh:IsG h (c*a) (c*b)):Dv h (c*g):=by
 rcases Classical.em (c=0)with rfl|hc
 ·rw[zero_mul];exact Dv.zero _
 obtain⟨k,hk⟩:=hh.2.2 c ((Dv.refl c).mul_right a) ((Dv.refl c).mul_right b);rw[hk];refine(Dv.refl c).mul (hg.2.2 k ?_ ?_)
 ·exact Dv.cancel hc (hk ▸ hh.1)
 ·exact Dv.cancel hc (hk ▸ hh.2.1)
theorem Cop.dvd {a b c:R} (h:Cop a b) (hd:Dv a (b*c)):Dv a c:=by
 obtain⟨g,hg⟩:=sU.ex a b;obtain⟨k,hk⟩:=sU.ex (c*a) (c*b);have h1:=Ma hg hk;have h2:=h g hg.1 hg.2.1;have h3:Dv a k:=hk.2.2 a ((Dv.refl a).mul_left c) (by rw[mul_comm];exact hd);have h4:Dv (c*g) (c*1):=(Dv.refl c).mul h2;rw[mul_one]at h4;exact(h3.trans h1).trans h4
theorem Cop.mul {a b c:R} (h:Cop a b) (h':Cop a c):Cop a (b*c):=by
 intro d hd hbc;have:Cop d b:=fun e he hb=>h e (he.trans hd) hb;exact h' d hd (this.dvd hbc)
def IsC (c:R) (p:P R):Prop:=(∀ i,Dv c (p.c i))/\∀ d,(∀ i,Dv d (p.c i))->Dv d c
def Prm (p:P R):Prop:=∀ d,(∀ i,Dv d (p.c i))->Dv d 1
theorem u7 (p:P R):∃ c,IsC c p:=by
 have key:∀ n,∃ c,(∀ i,i<n->Dv c (p.c i))/\∀ d,(∀ i,i<n->Dv d (p.c i))->Dv d c:=by
  intro n
  induction n with
  | zero=>exact⟨0,fun i h=>absurd h aw,fun d _=>Dv.zero d⟩
  | succ n ih =>
   obtain⟨c,h1,h2⟩:=ih;obtain⟨g,hg⟩:=sU.ex c (p.c n);refine⟨g,fun i hi=>?_,fun d hd=>hg.2.2 d (h2 d fun i hi=>hd i aw) (hd n aw)⟩;rcases Nat.lt_or_ge i n with h|h
   ·exact hg.1.trans (h1 i h)
   ·rw[show i=n from by omega];exact hg.2.1
 obtain⟨c,h1,h2⟩:=key (aa p);refine⟨c,fun i=>?_,fun d hd=>h2 d fun i _=>hd i⟩;rcases Nat.lt_or_ge i (aa p)with h|h
 ·exact h1 i h
 ·rw[aO h];exact Dv.zero c
theorem RG {c:R} {p:P R} (h:∀ i,Dv c (p.c i)):Dv (an c) p:=by
 refine⟨⟨fun i=>if p.c i=0 then 0 else Classical.choose (h i),aa p,fun i hi=>if_pos (aO hi)⟩,P.ext fun i=>?_⟩
 rw[bS];show p.c i=c*(if p.c i=0 then 0 else Classical.choose (h i))
 split
 ·rename_i h0;rw[h0,mul_zero]
 ·exact Classical.choose_spec (h i)
theorem Po {c:R} {p:P R} (h:Dv (an c) p) (i:Nat):Dv c (p.c i):=by
 obtain⟨q,rfl⟩:=h;exact⟨q.c i,bS c q i⟩
theorem Prm.of_content {c:R} {p q:P R} (hp:p≠0) (hc:IsC c p) (h:p=an c*q):Prm q:=by
 intro d hd;have hc0:c≠0:=by rintro rfl;rw[cC,zero_mul]at h;exact hp h
 have:Dv (c*d) c:=hc.2 _ fun i=>by rw[h,bS];exact(Dv.refl c).mul (hd i)
 refine Dv.cancel hc0 ?_;rw[mul_one];exact this
theorem mf {p:P R} (hp:p≠0):∃ c q,c≠0/\p=an c*q/\Prm q/\IsC c p:=by
 obtain⟨c,hc⟩:=u7 p;obtain⟨q,hq⟩:=RG hc.1;refine⟨c,q,?_,hq,Prm.of_content hp hc hq,hc⟩;rintro rfl;rw[cC,zero_mul]at hq;exact hp hq
theorem Prm.ne {p:P R} (h:Prm p):p≠0:=by
 rintro rfl;obtain⟨x,hx⟩:=h 0 fun i=>Dv.zero 0;rw[zero_mul]at hx;exact one_ne hx
theorem Prm.content {c:R} {q:P R} (hq:Prm q) {d:R} (h:∀ i,Dv d ((an c*q).c i)):Dv d c:=by
 rcases Classical.em (c=0)with rfl|hc
 ·exact Dv.zero d
 obtain⟨h',h1,h2⟩:=u7 (an c*q);obtain⟨k,hk⟩:=h2 c fun i=>by rw[bS];exact(Dv.refl c).mul_right _
 have:Dv k 1:=hq k fun i=>by
  have:=h1 i;rw[bS,hk]at this;exact Dv.cancel hc this
 have h3:=h2 d h;rw[hk]at h3;have h4:=(Dv.refl c).mul this;rw[mul_one]at h4;exact h3.trans h4
theorem Gv:∀(n:Nat) (p q:P R),aa p+aa q<=n->Prm p->Prm q->Prm (p*q):=by
 intro n
 induction n with
 | zero =>
  intro p q h hp _;have:=aR hp.ne;omega
 | succ n ih =>
  have step:∀(p q:P R),aa p+aa q<=n+1->Prm p->Prm q->∀ d,(∀ i,Dv d ((p*q).c i))->Cop d (lc p):=by
   intro p q h hp hq d hd e he hl;have hpq:∀ i,Dv e ((p*q).c i):=fun i=>he.trans (hd i)
   let p1:=p-mon (aa p-1) (lc p)
   have hp1:p=p1+mon (aa p-1) (lc p):=by
    show p=p-mon (aa p-1) (lc p)+mon (aa p-1) (lc p);exact ring [p,mon (aa p-1) (lc p)]
   have hm:∀ i,Dv e ((mon (aa p-1) (lc p)).c i):=fun i=>by
    rw[bY];split
    ·exact hl
    ·exact Dv.zero e
   refine hp e fun i=>?_;rw[hp1,ce];refine Dv.add ?_ (hm i);rcases Classical.em (p1=0)with h0|h0
   ·rw[h0];exact Dv.zero e
   have hlt:aa p1<aa p:=by
    have h1:=aR hp.ne;have:aa p1<=aa p-1:=cm fun j hj=>by
     show p.c j-(mon (aa p-1) (lc p)).c j=0;rw[bY];split
     ·rename_i h2;rw[h2];exact sub_self _
     ·rw[aO aw,sub_zero]
    omega
   obtain⟨c,q1,hc,e1,hq1,_⟩:=mf h0;have hprod:=ih q1 q (by rw[e1,bW hc]at hlt;omega) hq1 hq;have hdiv:∀ j,Dv e ((an c*(q1*q)).c j):=fun j=>by
    have e2:p*q=an c*(q1*q)+mon (aa p-1) (lc p)*q:=by
     rw[<-mul_assoc,<-e1,<-add_mul,<-hp1]
    have h3:=hpq j;rw[e2,ce,add_comm]at h3;refine Dv.of_add h3 ?_;rw[cu];split
    ·exact hl.mul_right _
    ·exact Dv.zero e
   have:=hprod.content hdiv;rw[e1,bS];exact this.mul_right _
  intro p q h hp hq d hd;have h1:=step p q h hp hq d hd;have h2:=step q p aw hq hp d fun i=>by rw[mul_comm];exact hd i
  exact(h1.mul h2) d (Dv.refl d) (by rw[<-up];exact hd _)
theorem Prm.mul {p q:P R} (hp:Prm p) (hq:Prm q):Prm (p*q):=Gv _ p q (ay _) hp hq
theorem Prm.dvd {d a:P R} {c:R} (hd:Prm d) (hc:c≠0) (h:Dv d (an c*a)):Dv d a:=by
 rcases Classical.em (a=0)with rfl|ha
 ·exact Dv.zero d
 obtain⟨q,hq⟩:=h;have hq0:q≠0:=by
  rintro rfl;rw[mul_zero]at hq;exact a6 (d9 hc) ha hq
 obtain⟨e,q',he,rfl,hq',_⟩:=mf hq0;have h1:an c*a=an e*(d*q'):=by rw[hq,dE]
 obtain⟨k,rfl⟩:Dv c e:=(hd.mul hq').content fun i=>by rw[<-h1,bS];exact(Dv.refl c).mul_right _
 rw[bC,mul_assoc]at h1;have h2:=cD (d9 hc) h1;exact⟨an k*q',by rw[h2,dE]⟩
theorem Prm.of_dvd {d p:P R} (h:Dv d p) (hp:Prm p):Prm d:=fun e he=>hp e fun i=>by
 obtain⟨q,rfl⟩:=h;exact Po ((RG he).mul_right q) i
theorem wj (b:P R) (hb:b≠0):∀(n:Nat) (a:P R),aa a<=n->∃(k:Nat) (q r:P R),an (pw (lc b) k)*a=q*b+r/\aa r<aa b:=by
 intro n
 induction n with
 | zero =>
  intro a ha;exact⟨0,0,a,by simp only[pw];rw[bP,one_mul,zero_mul,zero_add],by have:=aR hb;omega⟩
 | succ n ih =>
  intro a ha;rcases Nat.lt_or_ge (aa a) (aa b)with h|h
  ·exact⟨0,0,a,by simp only[pw];rw[bP,one_mul,zero_mul,zero_add],h⟩
  let t:=mon (aa a-aa b) (lc a)
  have hs:aa (an (lc b)*a-t*b)<=n:=cm fun i hi=>by
   have h1:=aR hb;rw[i9,bS,cu,if_pos aw];rcases Nat.lt_or_ge i (aa a)with h2|h2
   ·have h3:i=aa a-1:=aw;rw[h3,show aa a-1-(aa a-aa b)=aa b-1 from by omega];show lc b*lc a-lc a*lc b=0;rw[mul_comm,sub_self]
   ·rw[aO h2,aO (p:=b) aw,mul_zero,mul_zero,sub_zero]
  obtain⟨k,q,r,e,hr⟩:=ih _ hs;refine⟨k+1,q+an (pw (lc b) k)*t,r,?_,hr⟩;simp only[pw];rw[bC];exact lc1 1 e (ring [an (pw (lc b) k),an (lc b),a,q,t,b,r])
theorem Ig:∀(n:Nat) (a b:P R),aa b<=n->Prm a->(b=0\/Prm b)->∃ g,IsG g a b:=by
 intro n
 induction n with
 | zero =>
  intro a b h _ _;have:b=0:=aM.1 aw;subst this;exact⟨a,Dv.refl a,Dv.zero a,fun d h _=>h⟩
 | succ n ih =>
  intro a b h ha hb;rcases hb with rfl|hb
  ·exact⟨a,Dv.refl a,Dv.zero a,fun d h _=>h⟩
  obtain⟨k,q,r,e,hr⟩:=wj b hb.ne _ a (ay _);have hl:pw (lc b) k≠0:=DS (bN hb.ne) k;rcases Classical.em (r=0)with h0|h0
  ·subst h0;rw[add_zero]at e;exact⟨b,hb.dvd hl ⟨q,by rw[e,mul_comm]⟩,Dv.refl b,fun d _ h=>h⟩
  obtain⟨c,r',hc,rfl,hr',_⟩:=mf h0;rw[bW hc]at hr;obtain⟨g,h1,h2,h3⟩:=ih b r' aw hb (.inr hr');refine⟨g,?_,h1,fun d da db=>h3 d db ?_⟩
  ·refine(Prm.of_dvd h1 hb).dvd hl ?_;rw[e];exact(h1.mul_left q).add (h2.mul_left _)
  ·refine(Prm.of_dvd db hb).dvd hc ?_;have:Dv d (q*b+an c*r'):=by rw[<-e];exact da.mul_left _
   exact Dv.of_add this (db.mul_left q)
theorem Gu {ca cb cg:R} {a b g:P R} (ha:Prm a) (hb:Prm b) (hca:ca≠0) (hcb:cb≠0) (hc:IsG cg ca cb) (hg:IsG g a b):IsG (an cg*g) (an ca*a) (an cb*b):=by
 have cdv:∀{x y:R},Dv x y->Dv (an x) (an y):=fun⟨z,hz⟩=>⟨an z,by rw[hz,bC]⟩;refine⟨(cdv hc.1).mul hg.1,(cdv hc.2.1).mul hg.2.1,fun d da db=>?_⟩;have hd:d≠0:=da.ne (a6 (d9 hca) ha.ne);obtain⟨e,d',he,rfl,hd',hce⟩:=mf hd;have h1:Dv d' a:=hd'.dvd hca (Dv.trans ((Dv.refl d').mul_left _) da);have h2:Dv d' b:=hd'.dvd hcb (Dv.trans ((Dv.refl d').mul_left _) db);have h3:Dv e ca:=ha.content fun i=>Po (Dv.trans ((Dv.refl (an e)).mul_right _) da) i;have h4:Dv e cb:=hb.content fun i=>Po (Dv.trans ((Dv.refl (an e)).mul_right _) db) i;exact(cdv (hc.2.2 e h3 h4)).mul (hg.2.2 d' h1 h2)
instance:sU (P R) where
 ex a b:=by
  rcases Classical.em (a=0)with rfl|ha
  ·exact⟨b,Dv.zero b,Dv.refl b,fun d _ h=>h⟩
  rcases Classical.em (b=0)with rfl|hb
  ·exact⟨a,Dv.refl a,Dv.zero a,fun d h _=>h⟩
  obtain⟨ca,a',hca,rfl,ha',_⟩:=mf ha;obtain⟨cb,b',hcb,rfl,hb',_⟩:=mf hb;obtain⟨cg,hcg⟩:=sU.ex ca cb;obtain⟨g,hg⟩:=Ig _ a' b' (ay _) ha' (.inr hb');exact⟨_,Gu ha' hb' hca hcb hcg hg⟩
end
class Fd (R:Type) [CR R] where
 inv:R->R
 one_ne:(1:R)≠0
 mul_inv:∀ a:R,a≠0->a*inv a=1
 inv_zero:inv (0:R)=0
section
variable {R:Type} [CR R] [Fd R]
def inv (a:R):R:=Fd.inv a
theorem mul_inv {a:R} (h:a≠0):a*inv a=1:=Fd.mul_inv a h
theorem cA {a:R} (h:a≠0):inv a*a=1:=by rw[mul_comm,mul_inv h]
theorem inv_zero:inv (0:R)=0:=Fd.inv_zero
instance:Dom R where
 one_ne:=Fd.one_ne
 zero_of_mul a b h:=by
  rcases Classical.em (a=0)with ha|ha
  ·exact .inl ha
  refine .inr ?_;have:inv a*(a*b)=b:=by rw[<-mul_assoc,cA ha,one_mul]
  rw[<-this,h,mul_zero]
theorem fC {a:R} (h:a≠0):inv a≠0:=by
 intro h0;have:=mul_inv h;rw[h0,mul_zero]at this;exact one_ne this.symm
theorem qg {a b:R} (h:a*b=1):b=inv a:=by
 have ha:a≠0:=by rintro rfl;rw[zero_mul]at h;exact one_ne h.symm
 refine cD ha ?_;rw[h,mul_inv ha]
theorem Ed:inv (1:R)=1:=(qg (mul_one 1)).symm
theorem uF (a b:R):inv (a*b)=inv a*inv b:=by
 rcases Classical.em (a=0)with rfl|ha
 ·rw[zero_mul,inv_zero,zero_mul]
 rcases Classical.em (b=0)with rfl|hb
 ·rw[mul_zero,inv_zero,mul_zero]
 refine(qg ?_).symm;have h1:=mul_inv ha;have h2:=mul_inv hb;exact lc2 (b*inv b) 1 h1 h2 (ring [a,b,inv a,inv b])
theorem Ra {a b:R} (h:a≠0):Dv a b:=⟨inv a*b,by rw[<-mul_assoc,mul_inv h,one_mul]⟩
instance (priority:=50):sU R where
 ex a b:=by
  rcases Classical.em (a=0)with rfl|ha
  ·exact⟨b,Dv.zero b,Dv.refl b,fun d _ h=>h⟩
  ·exact⟨1,Dv.one a,Dv.one b,fun d h _=>Ra (h.ne ha)⟩
end
instance:CR Rat where
 zero:=0
 one:=1
 add_assoc:=Rat.add_assoc
 add_comm:=Rat.add_comm
 add_zero:=Rat.add_zero
 neg_add:=Rat.neg_add_cancel
 sub_eq:=Rat.sub_eq_add_neg
 mul_assoc:=Rat.mul_assoc
 mul_comm:=Rat.mul_comm
 mul_one:=Rat.mul_one
 mul_add:=Rat.mul_add
instance:Fd Rat where
 inv:=fun x=>x⁻¹
 one_ne:=aH
 mul_inv a h:=Rat.mul_inv_cancel a h
 inv_zero:=Rat.inv_zero
section
variable (D:Type) [CR D] [Dom D]
instance frS:Setoid {p:D×D // p.2≠0} where
 r p q:=p.1.1*q.1.2=q.1.1*p.1.2
 iseqv:={
  refl:=fun _=>rfl
  symm:=fun h=>h.symm
  trans:=fun{p q r} h h'=>by
   refine cD q.2 ?_;exact lc2 r.1.2 p.1.2 h h' (ring [p.1.1,p.1.2,q.1.1,q.1.2,r.1.1,r.1.2])
 }
def K:Type:=Quotient (frS D)
end
section
variable {D:Type} [CR D] [Dom D]
noncomputable def fr (a b:D):K D:=if h:b≠0 then Quotient.mk (frS D) ⟨(a,b),h⟩else Quotient.mk (frS D) ⟨(a,1),one_ne⟩
theorem lJ {a b:D} (h:b≠0):fr a b=Quotient.mk (frS D) ⟨(a,b),h⟩:=dif_pos h
theorem K.ind {p:K D->Prop} (h:∀ a b,b≠0->p (fr a b)) (x:K D):p x:=by
 induction x using Quotient.ind with
 | _ x =>
  obtain⟨⟨a,b⟩,hb⟩:=x;have:=h a b hb;rw[lJ hb]at this;exact this
theorem fG {a b c d:D} (hb:b≠0) (hd:d≠0):fr a b=fr c d↔a*d=c*b:=by
 rw[lJ hb,lJ hd];exact⟨fun h=>Quotient.exact h,fun h=>Quotient.sound h⟩
noncomputable def K.lift2 (n:D->D->D->D->D) (m:D->D->D->D->D) (hm:∀ a b c d,b≠0->d≠0->m a b c d≠0)
  (h:∀ a b c d a' b' c' d',b≠0->d≠0->b'≠0->d'≠0->a*b'=a'*b->c*d'=c'*d->n a b c d*m a' b' c' d'=n a' b' c' d'*m a b c d):K D->K D->K D :=
 Quotient.lift₂ (fun p q=>Quotient.mk (frS D) ⟨(n p.1.1 p.1.2 q.1.1 q.1.2,m p.1.1 p.1.2 q.1.1 q.1.2),hm _ _ _ _ p.2 q.2⟩) fun p q p' q' hp hq =>
  Quotient.sound (h _ _ _ _ _ _ _ _ p.2 q.2 p'.2 q'.2 hp hq)
noncomputable instance:Add (K D):=⟨K.lift2 (fun a b c d=>a*d+c*b) (fun _ b _ d=>b*d) (fun _ _ _ _ hb hd=>a6 hb hd)
 fun a b c d a' b' c' d' _ _ _ _ h h'=>lc2 (d*d') (b*b') h h' (ring [a,b,c,d,a',b',c',d'])⟩
noncomputable instance:Mul (K D):=⟨K.lift2 (fun a _ c _=>a*c) (fun _ b _ d=>b*d) (fun _ _ _ _ hb hd=>a6 hb hd)
 fun a b c d a' b' c' d' _ _ _ _ h h'=>lc2 (c*d') (a'*b) h h' (ring [a,b,c,d,a',b',c',d'])⟩
noncomputable instance:Neg (K D):=⟨Quotient.lift (fun p=>Quotient.mk (frS D) ⟨(-p.1.1,p.1.2),p.2⟩) fun p q h=>Quotient.sound (by
 show -p.1.1*q.1.2 = -q.1.1*p.1.2;rw[neg_mul,neg_mul];exact congrArg Neg.neg h)⟩
noncomputable instance:Sub (K D):=⟨fun x y=>x + -y⟩
noncomputable instance:Zero (K D):=⟨fr 0 1⟩
noncomputable instance:One (K D):=⟨fr 1 1⟩
theorem fZ {a b c d:D} (hb:b≠0) (hd:d≠0):fr a b+fr c d=fr (a*d+c*b) (b*d):=by
 rw[lJ hb,lJ hd,lJ (a6 hb hd)];rfl
theorem fi {a b c d:D} (hb:b≠0) (hd:d≠0):fr a b*fr c d=fr (a*c) (b*d):=by
 rw[lJ hb,lJ hd,lJ (a6 hb hd)];rfl
theorem uP {a b:D} (hb:b≠0) : -fr a b=fr (-a) b:=by
 rw[lJ hb,lJ hb];rfl
theorem xY:(0:K D)=fr 0 1:=rfl
theorem NH:(1:K D)=fr 1 1:=rfl
noncomputable instance:CR (K D) where
 add_assoc x y z:=by
  induction x using K.ind with|_ a b hb
  induction y using K.ind with|_ c d hd
  induction z using K.ind with|_ e f hf
  rw[fZ hb hd,fZ (a6 hb hd) hf,fZ hd hf,fZ hb (a6 hd hf),fG (a6 (a6 hb hd) hf) (a6 hb (a6 hd hf))];exact ring [a,b,c,d,e,f]
 add_comm x y:=by
  induction x using K.ind with|_ a b hb
  induction y using K.ind with|_ c d hd
  rw[fZ hb hd,fZ hd hb,fG (a6 hb hd) (a6 hd hb)];exact ring [a,b,c,d]
 add_zero x:=by
  induction x using K.ind with|_ a b hb
  rw[xY,fZ hb one_ne,fG (a6 hb one_ne) hb];exact ring [a,b]
 neg_add x:=by
  induction x using K.ind with|_ a b hb
  rw[uP hb,fZ hb hb,xY,fG (a6 hb hb) one_ne];exact ring [a,b]
 sub_eq x y:=rfl
 mul_assoc x y z:=by
  induction x using K.ind with|_ a b hb
  induction y using K.ind with|_ c d hd
  induction z using K.ind with|_ e f hf
  rw[fi hb hd,fi (a6 hb hd) hf,fi hd hf,fi hb (a6 hd hf),fG (a6 (a6 hb hd) hf) (a6 hb (a6 hd hf))];exact ring [a,b,c,d,e,f]
 mul_comm x y:=by
  induction x using K.ind with|_ a b hb
  induction y using K.ind with|_ c d hd
  rw[fi hb hd,fi hd hb,fG (a6 hb hd) (a6 hd hb)];exact ring [a,b,c,d]
 mul_one x:=by
  induction x using K.ind with|_ a b hb
  rw[NH,fi hb one_ne,fG (a6 hb one_ne) hb];exact ring [a,b]
 mul_add x y z:=by
  induction x using K.ind with|_ a b hb
  induction y using K.ind with|_ c d hd
  induction z using K.ind with|_ e f hf
  rw[fZ hd hf,fi hb (a6 hd hf),fi hb hd,fi hb hf,fZ (a6 hb hd) (a6 hb hf),fG (a6 hb (a6 hd hf)) (a6 (a6 hb hd) (a6 hb hf))];exact ring [a,b,c,d,e,f]
theorem cE {a b:D} (hb:b≠0):fr a b=0↔a=0:=by
 rw[xY,fG hb one_ne,mul_one,zero_mul]
theorem Jt {a b c d:D} (hb:b≠0) (hd:d≠0):fr a b-fr c d=fr (a*d-c*b) (b*d):=by
 rw[sub_eq,uP hd,fZ hb hd,sub_eq,neg_mul]
noncomputable def kinv:K D->K D:=Quotient.lift (fun p=>fr p.1.2 p.1.1*(if p.1.1=0 then 0 else 1)) fun p q h=>by
 have h':p.1.1*q.1.2=q.1.1*p.1.2:=h;rcases Classical.em (p.1.1=0)with h1|h1
 ·have h2:q.1.1=0:=by
   rw[h1,zero_mul]at h';exact(zero_of_mul h'.symm).resolve_right p.2
  show fr p.1.2 p.1.1*(if p.1.1=0 then 0 else 1)=fr q.1.2 q.1.1*(if q.1.1=0 then 0 else 1)
  rw[if_pos h1,if_pos h2,mul_zero,mul_zero]
 ·have h2:q.1.1≠0:=by
   intro h2;rw[h2,zero_mul]at h';exact(zero_of_mul h').elim h1 q.2
  show fr p.1.2 p.1.1*(if p.1.1=0 then 0 else 1)=fr q.1.2 q.1.1*(if q.1.1=0 then 0 else 1)
  rw[if_neg h1,if_neg h2,mul_one,mul_one,fG h1 h2,mul_comm,<-h',mul_comm]
theorem Ec {a b:D} (ha:a≠0) (hb:b≠0):kinv (fr a b)=fr b a:=by
 rw[lJ hb];show fr b a*(if a=0 then 0 else 1)=_
 rw[if_neg ha,mul_one]
noncomputable instance:Fd (K D) where
 inv:=kinv
 one_ne h:=one_ne (R:=D) (by
  have:=(cE (a:=(1:D)) one_ne).1 h;exact this)
 mul_inv x:=by
  induction x using K.ind with|_ a b hb
  intro h;have ha:a≠0:=fun e=>h ((cE hb).2 e);rw[Ec ha hb,fi hb ha,NH,fG (a6 hb ha) one_ne];exact ring [a,b]
 inv_zero:=by
  have e:kinv (fr (0:D) 1)=fr 1 0*(if(0:D)=0 then 0 else 1):=by rw[lJ one_ne];rfl
  exact e.trans (by rw[if_pos rfl,mul_zero])
theorem x6 {a b:D} (ha:a≠0) (hb:b≠0):inv (fr a b)=fr b a:=Ec ha hb
noncomputable def em (a:D):K D:=fr a 1
theorem uX (a b:D):em (a+b)=em a+em b:=by
 unfold em;rw[fZ one_ne one_ne,fG one_ne (a6 one_ne one_ne)];exact ring [a,b]
theorem pn (a b:D):em (a*b)=em a*em b:=by
 unfold em;rw[fi one_ne one_ne,fG one_ne (a6 one_ne one_ne)];exact ring [a,b]
theorem CL (a:D):em (-a) = -em a:=by unfold em;rw[uP one_ne]
theorem ou:em (0:D)=0:=rfl
theorem Pj:em (1:D)=1:=rfl
theorem ya {a b:D} (h:em a=em b):a=b:=by
 have:=(fG one_ne one_ne).1 h;rwa [mul_one,mul_one]at this
theorem Er {a:D} (h:a≠0):em a≠0:=fun e=>h (ya (e.trans ou.symm))
theorem NM {a b:D} (hb:b≠0):fr a b=em a*inv (em b):=by
 unfold em;rw[x6 hb one_ne,fi one_ne hb,fG hb (a6 one_ne hb)];exact ring [a,b]
theorem Pc {a b:D} {f:K D} (hb:b≠0) (h:f*em b=em a):f=fr a b:=by
 rw[NM hb,<-h,mul_assoc,mul_inv (Er hb),mul_one]
theorem wI {a b:D} (hb:b≠0):fr a b*em b=em a:=by
 rw[NM hb,mul_assoc,cA (Er hb),mul_one]
section
variable [sU D]
theorem Gj (f:K D):∃ a b,b≠0/\Cop a b/\f=fr a b:=by
 induction f using K.ind with|_ a b hb
 obtain⟨g,⟨x,rfl⟩,⟨y,rfl⟩,h⟩:=sU.ex a b;have hg:g≠0:=by rintro rfl;rw[zero_mul]at hb;exact hb rfl
 have hy:y≠0:=by rintro rfl;rw[mul_zero]at hb;exact hb rfl
 refine⟨x,y,hy,fun d hx hd=>?_,?_⟩
 ·have:=h (g*d) ((Dv.refl g).mul hx) ((Dv.refl g).mul hd);refine Dv.cancel hg ?_;rw[mul_one];exact this
 ·rw[fG hb hy];exact ring [x,y,g]
theorem zY {a b c d:D} (hb:b≠0) (hd:d≠0) (h:Cop a b) (h':Cop c d) (e:fr a b=fr c d):∃ u v,u*v=1/\c=u*a/\d=u*b:=by
 rw[fG hb hd]at e;obtain⟨u,rfl⟩:Dv b d:=h.symm.dvd (b:=a) ⟨c,by rw[e,mul_comm]⟩;obtain⟨v,hv⟩:Dv (b*u) b:=h'.symm.dvd (b:=c) ⟨a,by rw[<-e,mul_comm]⟩;have huv:u*v=1:=cD hb (by rw[<-mul_assoc,<-hv,mul_one]);refine⟨u,v,huv,ru hb ?_,mul_comm _ _⟩;rw[<-e];exact ring [a,b,u]
end
end
instance:CR Int where
 zero:=0
 one:=1
 add_assoc:=Int.add_assoc
 add_comm:=Int.add_comm
 add_zero:=Int.add_zero
 neg_add:=Int.add_left_neg
 sub_eq _ _:=Int.sub_eq_add_neg
 mul_assoc:=Int.mul_assoc
 mul_comm:=Int.mul_comm
 mul_one:=Int.mul_one
 mul_add:=Int.mul_add
instance:Dom Int where
 one_ne:=aH
 zero_of_mul _ _ h:=Int.mul_eq_zero.1 h
def cT (f:Nat->Nat):Nat->Nat
 | 0=>0
 | n+1=>cT f n+f n
theorem gt {f g:Nat->Nat} {n:Nat} (h:∀ i,i<n->f i=g i):cT f n=cT g n:=by
 induction n with
 | zero=>rfl
 | succ n ih=>simp only[cT];rw[ih fun i hi=>h i aw,h n aw]
theorem DE {f g:Nat->Nat} {n:Nat} (h:∀ i,i<n->f i<=g i):cT f n<=cT g n:=by
 induction n with
 | zero=>exact ay _
 | succ n ih=>simp only[cT];exact Nat.add_le_add (ih fun i hi=>h i aw) (h n aw)
theorem tU (H n:Nat):cT (fun _=>H) n=n*H:=by
 induction n with
 | zero=>simp[cT]
 | succ n ih=>simp only[cT,ih,Nat.add_mul,Nat.one_mul]
theorem zj (f g:Nat->Nat) (n:Nat):cT (fun i=>f i+g i) n=cT f n+cT g n:=by
 induction n with
 | zero=>rfl
 | succ n ih=>simp only[cT,ih];omega
theorem tS (a:Nat) (f:Nat->Nat) (n:Nat):cT (fun i=>a*f i) n=a*cT f n:=by
 induction n with
 | zero=>rfl
 | succ n ih=>simp only[cT,ih,Nat.mul_add]
theorem HM {f:Nat->Nat} {m n:Nat} (h:m<=n) (hz:∀ i,m<=i->f i=0):cT f n=cT f m:=by
 induction n with
 | zero=>rw[Nat.le_zero.1 h]
 | succ n ih =>
  rcases Nat.lt_or_ge m (n+1)with h1|h1
  ·simp only[cT];rw[ih aw,hz n aw,Nat.add_zero]
  ·rw[Nat.le_antisymm h h1]
theorem HL {f:Nat->Nat} {i n:Nat} (h:i<n):f i<=cT f n:=by
 induction n with
 | zero=>omega
 | succ n ih =>
  simp only[cT];rcases Nat.lt_or_ge i n with h1|h1
  ·have:=ih h1;omega
  ·rw[show i=n from by omega];omega
theorem BP (f:Nat->Nat) (k n:Nat):cT (fun i=>if k<=i then f (i-k)else 0) (k+n)=cT f n:=by
 induction n with
 | zero =>
  rw[Nat.add_zero,gt (g:=fun _=>0) fun i hi=>by rw[if_neg aw],tU];rfl
 | succ n ih =>
  rw[show k+(n+1)=(k+n)+1 from by omega];simp only[cT];rw[ih,if_pos aw,Nat.add_sub_cancel_left]
noncomputable def n1 (A:P Int):Nat:=cT (fun i=>(A.c i).natAbs) (aa A)
theorem ge {A:P Int} {n:Nat} (h:aa A<=n):n1 A=cT (fun i=>(A.c i).natAbs) n :=
 (HM h fun i hi=>by rw[aO hi];rfl).symm
theorem jA (A:P Int) (i:Nat):(A.c i).natAbs<=n1 A:=by
 rcases Nat.lt_or_ge i (aa A)with h|h
 ·exact HL (f:=fun i=>(A.c i).natAbs) h
 ·rw[aO h];exact Nat.zero_le _
theorem iI:n1 0=0:=by
 rw[ge (n:=0) (by rw[aM.2 rfl];exact ay _)];rfl
theorem OV {A:P Int} (h:A≠0):0<n1 A:=by
 have:=jA A (aa A-1);have h2:lc A≠0:=bN h;unfold lc at h2;omega
theorem ml (A B:P Int):n1 (A+B)<=n1 A+n1 B:=by
 have h1:aa A<=max (aa A) (aa B):=aw;have h2:aa B<=max (aa A) (aa B):=aw;rw[ge (dh h1 h2),ge h1,ge h2,<-zj];exact DE fun i _=>by rw[ce];exact Int.natAbs_add_le _ _
theorem rt (A:P Int):n1 (-A)=n1 A:=by
 unfold n1;rw[kQ];exact gt fun i _=>by rw[wT,Int.natAbs_neg]
theorem IK (A B:P Int):n1 (A-B)<=n1 A+n1 B:=by
 rw[sub_eq];have:=ml A (-B);rw[rt]at this;exact this
theorem nC (a:Int) (A:P Int):n1 (an a*A)=a.natAbs*n1 A:=by
 have h:aa (an a*A)<=aa A:=cm fun i hi=>by rw[bS,aO hi,mul_zero]
 rw[ge h,n1,<-tS];exact gt fun i _=>by rw[bS,Int.natAbs_mul]
theorem iw (k:Nat) (a:Int) (A:P Int):n1 (mon k a*A)=a.natAbs*n1 A:=by
 have h:aa (mon k a*A)<=k+aa A:=cm fun i hi=>by
  rw[cu,if_pos aw,aO aw,mul_zero]
 rw[ge h,n1,<-tS];refine Eq.trans (gt fun i _=>?_) (BP (fun i=>a.natAbs*(A.c i).natAbs) k (aa A));rw[cu];split
 ·rw[Int.natAbs_mul]
 ·rfl
theorem jh (A B:P Int):n1 (A*B)<=n1 A*n1 B:=by
 have key:∀(n:Nat) (A:P Int),aa A<=n->n1 (A*B)<=n1 A*n1 B:=by
  intro n
  induction n with
  | zero =>
   intro A h;have:A=0:=aM.1 aw;subst this;rw[zero_mul,iI];exact Nat.zero_le _
  | succ n ih =>
   intro A h
   let A':=A-mon n (A.c n)
   have hA:A=A'+mon n (A.c n):=by
    show A=A-mon n (A.c n)+mon n (A.c n);exact ring [A,mon n (A.c n)]
   have hs:aa A'<=n:=cm fun i hi=>by
    show A.c i-(mon n (A.c n)).c i=0;rw[bY];split
    ·rename_i e;rw[e];exact sub_self _
    ·rw[aO aw,sub_zero]
   have e1:n1 A=n1 A'+(A.c n).natAbs:=by
    rw[ge h,ge hs];simp only[cT];refine congrArg (· + _) (gt fun i hi=>?_);show _=(A.c i-(mon n (A.c n)).c i).natAbs;rw[bY,if_neg aw,sub_zero]
   have e2:A*B=A'*B+mon n (A.c n)*B:=by rw[<-add_mul,<-hA]
   rw[e2,e1,Nat.add_mul];refine ax (ml _ _) (Nat.add_le_add (ih A' hs) ?_);rw[iw];exact ay _
 exact key _ A (ay _)
theorem p9 {A:P Int} {n H:Nat} (hs:aa A<=n) (h:∀ i,(A.c i).natAbs<=H):n1 A<=n*H:=by
 rw[ge hs,<-tU];exact DE fun i _=>h i
theorem AE {S A:P Int} {H:Nat} (h:∀ i,(S.c i).natAbs<=H) (k:Nat):((S*A).c k).natAbs<=H*n1 A:=by
 have key:∀(n:Nat) (A:P Int),aa A<=n->((S*A).c k).natAbs<=H*n1 A:=by
  intro n
  induction n with
  | zero =>
   intro A hA;have:A=0:=aM.1 aw;subst this;rw[mul_zero];exact Nat.zero_le _
  | succ n ih =>
   intro A hA
   let A':=A-mon n (A.c n)
   have hA':A=A'+mon n (A.c n):=by
    show A=A-mon n (A.c n)+mon n (A.c n);exact ring [A,mon n (A.c n)]
   have hs:aa A'<=n:=cm fun i hi=>by
    show A.c i-(mon n (A.c n)).c i=0;rw[bY];split
    ·rename_i e;rw[e];exact sub_self _
    ·rw[aO aw,sub_zero]
   have e1:n1 A=n1 A'+(A.c n).natAbs:=by
    rw[ge hA,ge hs];simp only[cT];refine congrArg (· + _) (gt fun i hi=>?_);show _=(A.c i-(mon n (A.c n)).c i).natAbs;rw[bY,if_neg aw,sub_zero]
   have e2:S*A=S*A'+mon n (A.c n)*S:=by rw[mul_comm (mon n (A.c n)),<-mul_add,<-hA']
   rw[e2,e1,ce,Nat.mul_add];refine ax (Int.natAbs_add_le _ _) (Nat.add_le_add (ih A' hs) ?_);rw[cu];split
   ·rw[Int.natAbs_mul,Nat.mul_comm];exact Nat.mul_le_mul_right _ (h _)
   ·exact Nat.zero_le _
 exact key _ A (ay _)
theorem pigeon:∀(b a:Nat) (f:Nat->Nat),(∀ x,x<a->f x<b)->b<a->∃ x y,x<y/\y<a/\f x=f y:=by
 intro b
 induction b with
 | zero=>intro a f h hb;exact absurd (h 0 hb) aw
 | succ b ih =>
  intro a f h hb;rcases Classical.em (∃ x,x<a-1/\f x=f (a-1))with⟨x,hx,e⟩|hn
  ·exact⟨x,a-1,hx,aw,e⟩
  have hv:=h (a-1) aw;obtain⟨x,y,hxy,hy,e⟩:=ih (a-1) (fun x=>if f (a-1)<f x then f x-1 else f x) (fun x hx=>by
   have h1:=h x aw;have h2:f x≠f (a-1):=fun e=>hn ⟨x,hx,e⟩;show(if f (a-1)<f x then f x-1 else f x)<b
   split<;>omega) aw
  refine⟨x,y,hxy,aw,?_⟩;have h1:f x≠f (a-1):=fun e=>hn ⟨x,aw,e⟩;have h2:f y≠f (a-1):=fun e=>hn ⟨y,hy,e⟩;have e':(if f (a-1)<f x then f x-1 else f x)=(if f (a-1)<f y then f y-1 else f y):=e
  split at e'<;>split at e'<;>omega
def enc (b:Nat) (f:Nat->Nat):Nat->Nat
 | 0=>0
 | n+1=>enc b f n+b ^ n*f n
theorem CJ {b:Nat} {f:Nat->Nat} {n:Nat} (h:∀ i,i<n->f i<b):enc b f n<b ^ n:=by
 induction n with
 | zero=>simp[enc]
 | succ n ih =>
  simp only[enc];have h1:=ih fun i hi=>h i aw;have h2:b ^ n*(f n+1)<=b ^ n*b:=Nat.mul_le_mul_left _ (h n aw);rw[Nat.pow_succ];rw[Nat.mul_add,Nat.mul_one]at h2;omega
theorem Mn {b:Nat} {f g:Nat->Nat} {n:Nat} (hf:∀ i,i<n->f i<b) (hg:∀ i,i<n->g i<b) (e:enc b f n=enc b g n):∀ i,i<n->f i=g i:=by
 induction n with
 | zero=>intro i hi;omega
 | succ n ih =>
  simp only[enc]at e;have h1:=CJ (n:=n) fun i hi=>hf i aw;have h2:=CJ (n:=n) fun i hi=>hg i aw;have hb:0<b ^ n:=aw;have e1:f n=g n:=by
   have a1:(enc b f n+b ^ n*f n)/b ^ n=f n:=by rw[Nat.add_mul_div_left _ _ hb,Nat.div_eq_of_lt h1,Nat.zero_add]
   have a2:(enc b g n+b ^ n*g n)/b ^ n=g n:=by rw[Nat.add_mul_div_left _ _ hb,Nat.div_eq_of_lt h2,Nat.zero_add]
   rw[<-a1,<-a2,e]
  have e2:enc b f n=enc b g n:=by rw[e1]at e;omega
  intro i hi;rcases Nat.lt_or_ge i n with h|h
  ·exact ih (fun i hi=>hf i aw) (fun i hi=>hg i aw) e2 i h
  ·rw[show i=n from by omega];exact e1
theorem Ep (b x:Nat) (n:Nat):enc b (fun i=>x/b ^ i % b) n=x % b ^ n:=by
 induction n with
 | zero=>simp[enc,Nat.mod_one]
 | succ n ih=>simp only[enc];rw[ih,Nat.mod_pow_succ]
theorem Ii (k m:Nat) (hk:0<k) (K:Nat) (hK:k=2*K):(2*(K*k ^ m)+1) ^ m<(k ^ m+1) ^ (m+1):=by
 have h1:2*(K*k ^ m)+1<=k*(k ^ m+1):=by
  rw[Nat.mul_add,hK,<-Nat.mul_assoc];omega
 have h2:(2*(K*k ^ m)+1) ^ m<=k ^ m*(k ^ m+1) ^ m:=by
  rw[<-Nat.mul_pow];exact Nat.pow_le_pow_left h1 m
 have h3:k ^ m*(k ^ m+1) ^ m<(k ^ m+1)*(k ^ m+1) ^ m:=Nat.mul_lt_mul_of_pos_right aw (Nat.pow_pos aw);rw[Nat.pow_succ,Nat.mul_comm _ (k ^ m+1)];omega
def ofN (f:Nat->Int) (n:Nat):P Int:=⟨fun i=>if i<n then f i else 0,⟨n,fun i hi=>if_neg aw⟩⟩
theorem xx (f:Nat->Int) (n:Nat):aa (ofN f n)<=n:=cm fun i hi=>if_neg aw
theorem siegel (A B:P Int) (a b lo m:Nat) (hm:m+1=a+b) (hpos:0<n1 A+n1 B) :
  ∃ S T:P Int,(S≠0\/T≠0)/\aa S<=a/\aa T<=b/\(∀ i,(S.c i).natAbs<=(2*(n1 A+n1 B)) ^ m)/\(∀ i,(T.c i).natAbs<=(2*(n1 A+n1 B)) ^ m) /\
   ∀ j,j<m->(S*A+T*B).c (lo+j)=0:=by
 generalize hK:n1 A+n1 B=K at *
 generalize hH:(2*K) ^ m=H
 let S (x:Nat):P Int:=ofN (fun i=>((x/(H+1) ^ i % (H+1):Nat):Int)) a
 let T (x:Nat):P Int:=ofN (fun i=>((x/(H+1) ^ (a+i) % (H+1):Nat):Int)) b
 have hS:∀ x i,((S x).c i).natAbs<=H:=fun x i=>by
  show(if i<a then((x/(H+1) ^ i % (H+1):Nat):Int)else 0).natAbs<=H
  have:=Nat.mod_lt (x/(H+1) ^ i) (show 0<H+1 by omega);split
  ·rw[Int.natAbs_natCast];omega
  ·exact Nat.zero_le _
 have hT:∀ x i,((T x).c i).natAbs<=H:=fun x i=>by
  show(if i<b then((x/(H+1) ^ (a+i) % (H+1):Nat):Int)else 0).natAbs<=H
  have:=Nat.mod_lt (x/(H+1) ^ (a+i)) (show 0<H+1 by omega);split
  ·rw[Int.natAbs_natCast];omega
  ·exact Nat.zero_le _
 have hc:∀ x k,((S x*A+T x*B).c k).natAbs<=K*H:=fun x k=>by
  have h1:=AE (A:=A) (hS x) k;have h2:=AE (A:=B) (hT x) k;have h3:=Int.natAbs_add_le ((S x*A).c k) ((T x*B).c k);rw[ce,<-hK,Nat.add_mul,Nat.mul_comm (n1 A),Nat.mul_comm (n1 B)];omega
 let f (x:Nat):Nat:=enc (2*(K*H)+1) (fun j=>((S x*A+T x*B).c (lo+j)+(K*H:Nat)).toNat) m
 have hd:∀ x j,((S x*A+T x*B).c (lo+j)+(K*H:Nat)).toNat<2*(K*H)+1:=fun x j=>by
  have:=hc x (lo+j);omega
 have hlt:(2*(K*H)+1) ^ m<(H+1) ^ (a+b):=by
  rw[<-hm,<-hH];exact Ii (2*K) m aw K rfl
 obtain⟨x,y,hxy,hy,e⟩:=pigeon _ _ f (fun x _=>CJ fun j _=>hd x j) hlt;have ej:=Mn (fun j _=>hd x j) (fun j _=>hd y j) e;refine⟨S x-S y,T x-T y,?_,gB (xx _ _) (xx _ _),gB (xx _ _) (xx _ _),fun i=>?_,fun i=>?_,fun j hj=>?_⟩
 ·rcases Classical.em (S x-S y=0/\T x-T y=0)with⟨h1,h2⟩|h
  ·exfalso;have h1:=fT h1;have h2:=fT h2;have hdig:∀ i,i<a+b->x/(H+1) ^ i % (H+1)=y/(H+1) ^ i % (H+1):=fun i hi=>by
    rcases Nat.lt_or_ge i a with h|h
    ·have:=congrArg (fun p=>p.c i) h1;have this:(if i<a then((x/(H+1) ^ i % (H+1):Nat):Int)else 0)=(if i<a then((y/(H+1) ^ i % (H+1):Nat):Int)else 0):=this
     rw[if_pos h,if_pos h]at this;exact Int.ofNat.inj this
    ·have:=congrArg (fun p=>p.c (i-a)) h2;have this:(if i-a<b then((x/(H+1) ^ (a+(i-a)) % (H+1):Nat):Int)else 0)=(if i-a<b then((y/(H+1) ^ (a+(i-a)) % (H+1):Nat):Int)else 0):=this
     rw[if_pos aw,if_pos aw,Nat.add_sub_cancel' h]at this;exact Int.ofNat.inj this
   have hx:x=enc (H+1) (fun i=>x/(H+1) ^ i % (H+1)) (a+b):=by rw[Ep,Nat.mod_eq_of_lt aw]
   have hy':y=enc (H+1) (fun i=>y/(H+1) ^ i % (H+1)) (a+b):=by rw[Ep,Nat.mod_eq_of_lt hy]
   have:enc (H+1) (fun i=>x/(H+1) ^ i % (H+1)) (a+b)=enc (H+1) (fun i=>y/(H+1) ^ i % (H+1)) (a+b):=by
    have hcg:∀ n,n<=a+b->enc (H+1) (fun i=>x/(H+1) ^ i % (H+1)) n=enc (H+1) (fun i=>y/(H+1) ^ i % (H+1)) n:=by
     intro n
     induction n with
     | zero=>intro _;rfl
     | succ n ih=>intro hn;simp only[enc];rw[ih aw,hdig n aw]
    exact hcg _ (ay _)
   omega
  ·rcases Classical.em (S x-S y=0)with h1|h1
   ·exact .inr fun h2=>h ⟨h1,h2⟩
   ·exact .inl h1
 ·show((if i<a then((x/(H+1) ^ i % (H+1):Nat):Int)else 0)-(if i<a then((y/(H+1) ^ i % (H+1):Nat):Int)else 0)).natAbs<=H
  have h1:=Nat.mod_lt (x/(H+1) ^ i) (show 0<H+1 by omega);have h2:=Nat.mod_lt (y/(H+1) ^ i) (show 0<H+1 by omega);split<;>omega
 ·show((if i<b then((x/(H+1) ^ (a+i) % (H+1):Nat):Int)else 0)-(if i<b then((y/(H+1) ^ (a+i) % (H+1):Nat):Int)else 0)).natAbs<=H
  have h1:=Nat.mod_lt (x/(H+1) ^ (a+i)) (show 0<H+1 by omega);have h2:=Nat.mod_lt (y/(H+1) ^ (a+i)) (show 0<H+1 by omega);split<;>omega
 ·have h1:=ej j hj;have h2:=hc x (lo+j);have h3:=hc y (lo+j);have h4:(S x*A+T x*B).c (lo+j)=(S y*A+T y*B).c (lo+j):=aw;have h5:(S x-S y)*A+(T x-T y)*B=(S x*A+T x*B)-(S y*A+T y*B):=ring [S x,S y,T x,T y,A,B];rw[h5,i9,h4];exact sub_self _
end Alg
