/- Contracts and what they rest on: AmV. -/
import Derived.Test.YtgllpjliaepbdaaGreatAmPa
set_option linter.unusedVariables false
set_option linter.unusedSimpArgs false
set_option linter.unnecessarySimpa false
namespace Go.Am
open Go
class Kt (α:Type) where
 go:α→Prop
class Kp where
 p:Prop
class Kq where
 go:LX→St→Prop
def KON{α:Type}(o:Option α)[f:Kt α]:Prop:=kon o f.go
def Jh(o:Option D)[a:Kp][b:Kp]:Prop:=Ju o a.p b.p
def GBR(o:Option D)[a:Kp][b:Kp][c:Kp]:Prop:=Zh o a.p b.p c.p
def NIL(o:Option (Prop×Prop))[a:Kp][b:Kp]:Prop:=kon o fun q=>(q.1→a.p)∧(q.2→b.p)
def Qft(P:Program)(f:Nat)(args:List D)[F:Kt (Bool×D×qSl)]:Prop:=QcM P f args F.go
def ACT(P:Program)(n:Nat)(i:LI)(s:St)[K:Kt St]:Prop:=XX P n i s K.go
def Qb3(P:Program)(n:Nat)(i:LI)(s:St)[K:Kt St]:Prop:=YD P n i s K.go
def OPS(P:Program)(l:List LI)(n:Nat)(s:St)[K:Kt St]:Prop:=Jw P l n s K.go
def RUN(P:Program)(c:LC)[Q:Kq](s:St):Prop:=W P c Q.go s
def END(e:LX)(s:St)[Q:Kq]:Prop:=Q.go e s
section
variable {P:Program} {q:LX→St→Prop} {s:St}
theorem Qpn:@RUN P .skip ⟨q⟩ s=@END .normal s ⟨q⟩:=by simp only[RUN,W,END]
theorem Qpo:@RUN P .ret ⟨q⟩ s=@END .ret s ⟨q⟩:=by simp only[RUN,W,END]
theorem Qpp{i:Nat}:@RUN P (.exit i) ⟨q⟩ s=@END (.exit i) s ⟨q⟩:=by simp only[RUN,W,END]
theorem Qpq{a b:LC}:@RUN P (.seq a b) ⟨q⟩ s=@RUN P a ⟨LX.seq (fun s=>@RUN P b ⟨q⟩ s) q⟩ s:=by simp only[RUN,W]
theorem Qpr{i:Nat}{a:LC}:@RUN P (.block i a) ⟨q⟩ s=@RUN P a ⟨LX.blk i q⟩ s:=by simp only[RUN,W]
theorem Qps{ops:List LI}{keep:List Nat}{sl:qSl}{hp:qHp}{n:Nat}:
  @RUN P (.reg ops keep) ⟨q⟩ ⟨sl,hp,n⟩=@OPS P ops n ⟨sl,hp,n⟩ ⟨fun s'=>@END .normal ⟨fil keep s'.sl,s'.hp,s'.nx⟩ ⟨q⟩⟩:=by simp only[RUN,W];rfl
theorem Qpt{c:X}{a b:LC}:@RUN P (.cond c a b) ⟨q⟩ s=@Jh (ev s.sl c) ⟨@RUN P a ⟨q⟩ s⟩ ⟨@RUN P b ⟨q⟩ s⟩:=by simp only[RUN,W];rfl
theorem Qpu{a b:Kp}:@Jh (some (.bool true)) a b=a.p:=by simp [Jh,Ju]
theorem Qpv{a b:Kp}:@Jh (some (.bool false)) a b=b.p:=by simp [Jh,Ju]
theorem QaF{t:Bool}{a b:Kp}(h:t=true→a.p)(k:t=false→b.p):@Jh (some (.bool t)) a b:=⟨h,k⟩
theorem QT{p:Prop}[Decidable p]{a b:Kp}(h:p→a.p)(k:¬p→b.p):@Jh (some (.bool (decide p))) a b:=⟨fun e=>h (of_decide_eq_true e),fun e=>k (of_decide_eq_false e)⟩
theorem XY{p:Prop}[Decidable p]{a b:Kp}(h:¬p→a.p)(k:p→b.p):@Jh (some (.bool (!decide p))) a b:=⟨fun e=>h (by simpa using e),fun e=>k (by simpa using e)⟩
theorem Qdi{p q:Prop}{a b:Kp}(h:p→a.p)(k:q→b.p):@NIL (some (p,q)) a b:=⟨h,k⟩
theorem QQ{f:Nat}{args:List D}{F:Kt (Bool×D×qSl)}{r:D}{outs:qSl}(h:FC P f args r outs)(k:F.go (false,r,outs)):@Qft P f args F:=⟨false,r,outs,h,k⟩
theorem Qpw:(∀{α:Type}{a:α}{f:Kt α},@KON α (some a) f=f.go a)∧(∀{n xs},QcN (.lst n xs)=some (xs=[],True))∧(∀{q:LX→St→Prop}{s:St}{V:St→Prop},@END .normal s ⟨LX.seq V q⟩=V s)∧(∀{q:LX→St→Prop}{s:St}{V:St→Prop}{i:Nat},@END (.exit i) s ⟨LX.seq V q⟩=@END (.exit i) s ⟨q⟩)∧(∀{q:LX→St→Prop}{s:St}{V:St→Prop},@END .ret s ⟨LX.seq V q⟩=@END .ret s ⟨q⟩)∧(∀{q:LX→St→Prop}{s:St}{i:Nat},@END .normal s ⟨LX.blk i q⟩=@END .normal s ⟨q⟩)∧(∀{q:LX→St→Prop}{s:St}{i j:Nat},@END (.exit j) s ⟨LX.blk i q⟩=if j=i then @END .normal s ⟨q⟩ else @END (.exit j) s ⟨q⟩)∧(∀{q:LX→St→Prop}{s:St}{i:Nat},@END .ret s ⟨LX.blk i q⟩=@END .ret s ⟨q⟩)∧(∀{s rs outs r os},@END .ret s ⟨DoneF rs outs r os⟩=(fin ⟨s.sl,Q9 (s.hp.map (·.1)) s.hp,s.nx⟩ rs outs=some (r,os)))∧(∀{s rs outs r os},@END .ret s ⟨DoneZ rs outs r os⟩=(Qba (fin ⟨s.sl,Q9 (s.hp.map (·.1)) s.hp,s.nx⟩ rs outs)=some (r,os)))∧(∀{r os},Qba (some (r,os))=some (frz r,os))∧(∀{ds},frz (.tup ds)=.tup (ds.map JZ))∧(∀{cs},frz (.agg cs)=.agg (cs.map Zs))∧(∀{cs},JZ (.agg cs)=.agg (cs.map Zs))∧(∀{n l},Zs (.arr n l)=.lst n l)∧(∀{n l},Zs (.lst n l)=.lst n l)∧(∀{k x},JZ (.int k x)=.int k x)∧(∀{k x},Zs (.int k x)=.int k x)∧(∀{b},Zs (.bool b)=.bool b)∧(∀{b},Zs (.str b)=.str b)∧(∀{s rs outs r os},@END .normal s ⟨Done rs outs r os⟩=(fin s rs outs=some (r,os)))∧(∀{s rs outs r os},@END .ret s ⟨Done rs outs r os⟩=(fin s rs outs=some (r,os)))∧(∀{t a b c},@GBR (some (.bool t)) a b c=@Jh (some (.bool t)) a b)∧(∀{a b c},@GBR (some .undef) a b c=c.p)∧(∀{P d op t n sl hp m K},@Qb3 P n ⟨d,op,some (t,true)⟩ ⟨sl,hp,m⟩ K=@GBR (lk sl t) ⟨@ACT P n ⟨d,op,some (t,true)⟩ ⟨sl,hp,m⟩ K⟩ ⟨K.go ⟨Q5 d .undef sl,hp,m⟩⟩ ⟨K.go ⟨Q5 d .undef sl,hp,m⟩⟩)∧(∀{P d op t n sl hp m K},@Qb3 P n ⟨d,op,some (t,false)⟩ ⟨sl,hp,m⟩ K=@GBR (lk sl t) ⟨K.go ⟨Q5 d .undef sl,hp,m⟩⟩ ⟨@ACT P n ⟨d,op,some (t,false)⟩ ⟨sl,hp,m⟩ K⟩ ⟨K.go ⟨Q5 d .undef sl,hp,m⟩⟩)∧(∀{P d op n s K},@Qb3 P n ⟨d,op,none⟩ s K=@ACT P n ⟨d,op,none⟩ s K)∧(∀{P n m sl hp K},@OPS P [] n ⟨sl,hp,m⟩ K=K.go ⟨sl,hp,n⟩)∧(∀{P i l n s K},@OPS P (i::l) n s K=@Qb3 P n i s ⟨fun s'=>@OPS P l (n+64) s' K⟩):=⟨rfl,rfl,rfl,rfl,rfl,rfl,rfl,rfl,rfl,rfl,rfl,rfl,rfl,rfl,rfl,rfl,rfl,rfl,rfl,rfl,rfl,rfl,rfl,rfl,rfl,rfl,rfl,rfl,rfl⟩
section
variable {dst:Option Nat} {gd:Option (Nat×Bool)} {n m:Nat} {sl:qSl} {hp:qHp} {K:Kt St}
theorem Qpx{g x}:@ACT P n ⟨dst,.isnil g x,gd⟩ ⟨sl,hp,m⟩ K=@NIL ((ev sl x).bind QcN) ⟨K.go ⟨Q5 dst (.bool (!g)) sl,hp,m⟩⟩ ⟨K.go ⟨Q5 dst (.bool g) sl,hp,m⟩⟩:=by
 simp only[ACT,XX,NIL]
theorem Qpy{f xs md}:@ACT P n ⟨dst,.call f xs md,gd⟩ ⟨sl,hp,m⟩ K=
  @KON _ (QU (ev sl) xs) ⟨fun ds=>@KON _ (Zo hp md ds) ⟨fun p=>@Qft P f p.1 ⟨fun q=>@KON _ (Zy q.1 n hp p.2 ds md q.2.1 q.2.2) ⟨fun p=>K.go ⟨Q5 dst p.1 sl,p.2,m⟩⟩⟩⟩⟩:=id rfl
theorem Qpz{g xs}:@ACT P n ⟨dst,.callv g xs,gd⟩ ⟨sl,hp,m⟩ K=
  @KON _ ((ev sl g).bind Jv) ⟨fun c=>@KON _ (QU (ev sl) xs) ⟨fun ds=>@KON _ (Zo hp [] (ds++c.2)) ⟨fun p=>@Qft P c.1 p.1 ⟨fun q=>@KON _ (Zy q.1 n hp p.2 (ds++c.2) [] q.2.1 q.2.2) ⟨fun p=>K.go ⟨Q5 dst p.1 sl,p.2,m⟩⟩⟩⟩⟩⟩:=id rfl
theorem QpA:(∀{P dst gd n m sl hp K x},@ACT P n ⟨dst,.mov x,gd⟩ ⟨sl,hp,m⟩ K=@KON _ (eff n sl hp (.mov x)) ⟨fun p=>K.go ⟨Q5 dst p.1 sl,p.2,m⟩⟩)∧(∀{P dst gd n m sl hp K c a b},@ACT P n ⟨dst,.pick c a b,gd⟩ ⟨sl,hp,m⟩ K=@KON _ (eff n sl hp (.pick c a b)) ⟨fun p=>K.go ⟨Q5 dst p.1 sl,p.2,m⟩⟩)∧(∀{P dst gd n m sl hp K z},@ACT P n ⟨dst,.alloc z,gd⟩ ⟨sl,hp,m⟩ K=@KON _ (eff n sl hp (.alloc z)) ⟨fun p=>K.go ⟨Q5 dst p.1 sl,p.2,m⟩⟩)∧(∀{P dst gd n m sl hp K x},@ACT P n ⟨dst,.bx x,gd⟩ ⟨sl,hp,m⟩ K=@KON _ (eff n sl hp (.bx x)) ⟨fun p=>K.go ⟨Q5 dst p.1 sl,p.2,m⟩⟩)∧(∀{P dst gd n m sl hp K z ps},@ACT P n ⟨dst,.build z ps,gd⟩ ⟨sl,hp,m⟩ K=@KON _ (eff n sl hp (.build z ps)) ⟨fun p=>K.go ⟨Q5 dst p.1 sl,p.2,m⟩⟩)∧(∀{P dst gd n m sl hp K a b z c ps},@ACT P n ⟨dst,.buildSl a b z c ps,gd⟩ ⟨sl,hp,m⟩ K=@KON _ (eff n sl hp (.buildSl a b z c ps)) ⟨fun p=>K.go ⟨Q5 dst p.1 sl,p.2,m⟩⟩)∧(∀{P dst gd n m sl hp K b x},@ACT P n ⟨dst,.bsn b x,gd⟩ ⟨sl,hp,m⟩ K=@KON _ (eff n sl hp (.bsn b x)) ⟨fun p=>K.go ⟨Q5 dst p.1 sl,p.2,m⟩⟩)∧(∀{P dst gd n m sl hp K b x y},@ACT P n ⟨dst,.apn b x y,gd⟩ ⟨sl,hp,m⟩ K=@KON _ (eff n sl hp (.apn b x y)) ⟨fun p=>K.go ⟨Q5 dst p.1 sl,p.2,m⟩⟩)∧(∀{P dst gd n m sl hp K x},@ACT P n ⟨dst,.tk x,gd⟩ ⟨sl,hp,m⟩ K=@KON _ (eff n sl hp (.tk x)) ⟨fun p=>K.go ⟨Q5 dst p.1 sl,p.2,m⟩⟩)∧(∀{P dst gd n m sl hp K a x},@ACT P n ⟨dst,.pu a x,gd⟩ ⟨sl,hp,m⟩ K=@KON _ (eff n sl hp (.pu a x)) ⟨fun p=>K.go ⟨Q5 dst p.1 sl,p.2,m⟩⟩)∧(∀{P dst gd n m sl hp K a b x},@ACT P n ⟨dst,.load a b x,gd⟩ ⟨sl,hp,m⟩ K=@KON _ (eff n sl hp (.load a b x)) ⟨fun p=>K.go ⟨Q5 dst p.1 sl,p.2,m⟩⟩)∧(∀{P dst gd n m sl hp K a x y},@ACT P n ⟨dst,.store a x y,gd⟩ ⟨sl,hp,m⟩ K=@KON _ (eff n sl hp (.store a x y)) ⟨fun p=>K.go ⟨Q5 dst p.1 sl,p.2,m⟩⟩)∧(∀{P dst gd n m sl hp K op x y},@ACT P n ⟨dst,.bin op x y,gd⟩ ⟨sl,hp,m⟩ K=@KON _ (eff n sl hp (.bin op x y)) ⟨fun p=>K.go ⟨Q5 dst p.1 sl,p.2,m⟩⟩)∧(∀{P dst gd n m sl hp K c b x y},@ACT P n ⟨dst,.eqA c b x y,gd⟩ ⟨sl,hp,m⟩ K=@KON _ (eff n sl hp (.eqA c b x y)) ⟨fun p=>K.go ⟨Q5 dst p.1 sl,p.2,m⟩⟩)∧(∀{P dst gd n m sl hp K b x y},@ACT P n ⟨dst,.eqB b x y,gd⟩ ⟨sl,hp,m⟩ K=@KON _ (eff n sl hp (.eqB b x y)) ⟨fun p=>K.go ⟨Q5 dst p.1 sl,p.2,m⟩⟩)∧(∀{P dst gd n m sl hp K x},@ACT P n ⟨dst,.not x,gd⟩ ⟨sl,hp,m⟩ K=@KON _ (eff n sl hp (.not x)) ⟨fun p=>K.go ⟨Q5 dst p.1 sl,p.2,m⟩⟩)∧(∀{P dst gd n m sl hp K k x},@ACT P n ⟨dst,.conv k x,gd⟩ ⟨sl,hp,m⟩ K=@KON _ (eff n sl hp (.conv k x)) ⟨fun p=>K.go ⟨Q5 dst p.1 sl,p.2,m⟩⟩)∧(∀{P dst gd n m sl hp K f l},@ACT P n ⟨dst,.mkf f l,gd⟩ ⟨sl,hp,m⟩ K=@KON _ (eff n sl hp (.mkf f l)) ⟨fun p=>K.go ⟨Q5 dst p.1 sl,p.2,m⟩⟩)∧(∀{P dst gd n m sl hp K a b z x},@ACT P n ⟨dst,.makeSl a b z x,gd⟩ ⟨sl,hp,m⟩ K=@KON _ (eff n sl hp (.makeSl a b z x)) ⟨fun p=>K.go ⟨Q5 dst p.1 sl,p.2,m⟩⟩)∧(∀{P dst gd n m sl hp K a x y z},@ACT P n ⟨dst,.slc a x y z,gd⟩ ⟨sl,hp,m⟩ K=@KON _ (eff n sl hp (.slc a x y z)) ⟨fun p=>K.go ⟨Q5 dst p.1 sl,p.2,m⟩⟩)∧(∀{P dst gd n m sl hp K a x},@ACT P n ⟨dst,.fad a x,gd⟩ ⟨sl,hp,m⟩ K=@KON _ (eff n sl hp (.fad a x)) ⟨fun p=>K.go ⟨Q5 dst p.1 sl,p.2,m⟩⟩)∧(∀{P dst gd n m sl hp K a x y},@ACT P n ⟨dst,.iad a x y,gd⟩ ⟨sl,hp,m⟩ K=@KON _ (eff n sl hp (.iad a x y)) ⟨fun p=>K.go ⟨Q5 dst p.1 sl,p.2,m⟩⟩)∧(∀{P dst gd n m sl hp K a b x y},@ACT P n ⟨dst,.iaa a b x y,gd⟩ ⟨sl,hp,m⟩ K=@KON _ (eff n sl hp (.iaa a b x y)) ⟨fun p=>K.go ⟨Q5 dst p.1 sl,p.2,m⟩⟩)∧(∀{P dst gd n m sl hp K a b x y},@ACT P n ⟨dst,.app a b x y,gd⟩ ⟨sl,hp,m⟩ K=@KON _ (eff n sl hp (.app a b x y)) ⟨fun p=>K.go ⟨Q5 dst p.1 sl,p.2,m⟩⟩)∧(∀{P dst gd n m sl hp K x},@ACT P n ⟨dst,.len x,gd⟩ ⟨sl,hp,m⟩ K=@KON _ (eff n sl hp (.len x)) ⟨fun p=>K.go ⟨Q5 dst p.1 sl,p.2,m⟩⟩)∧(∀{P dst gd n m sl hp K a x},@ACT P n ⟨dst,.clr a x,gd⟩ ⟨sl,hp,m⟩ K=@KON _ (eff n sl hp (.clr a x)) ⟨fun p=>K.go ⟨Q5 dst p.1 sl,p.2,m⟩⟩)∧(∀{P dst gd n m sl hp K l},@ACT P n ⟨dst,.mn l,gd⟩ ⟨sl,hp,m⟩ K=@KON _ (eff n sl hp (.mn l)) ⟨fun p=>K.go ⟨Q5 dst p.1 sl,p.2,m⟩⟩)∧(∀{P dst gd n m sl hp K l},@ACT P n ⟨dst,.mx l,gd⟩ ⟨sl,hp,m⟩ K=@KON _ (eff n sl hp (.mx l)) ⟨fun p=>K.go ⟨Q5 dst p.1 sl,p.2,m⟩⟩)∧(∀{P dst gd n m sl hp K a xs},@ACT P n ⟨dst,.sf a xs,gd⟩ ⟨sl,hp,m⟩ K=@KON _ (eff n sl hp (.sf a xs)) ⟨fun p=>K.go ⟨Q5 dst p.1 sl,p.2,m⟩⟩)∧(∀{P dst gd n m sl hp K a x y},@ACT P n ⟨dst,.cpy a x y,gd⟩ ⟨sl,hp,m⟩ K=@KON _ (eff n sl hp (.cpy a x y)) ⟨fun p=>K.go ⟨Q5 dst p.1 sl,p.2,m⟩⟩)∧(∀{P dst gd n m sl hp K x a},@ACT P n ⟨dst,.ext x a,gd⟩ ⟨sl,hp,m⟩ K=@KON _ (eff n sl hp (.ext x a)) ⟨fun p=>K.go ⟨Q5 dst p.1 sl,p.2,m⟩⟩):=⟨rfl,rfl,rfl,rfl,rfl,rfl,rfl,rfl,rfl,rfl,rfl,rfl,rfl,rfl,rfl,rfl,rfl,rfl,rfl,rfl,rfl,rfl,rfl,rfl,rfl,rfl,rfl,rfl,rfl,rfl,rfl⟩
end
theorem QpB:(∀{k x},XU (.int k x:D)=true)∧(∀{k x},XK (.int k x:D)=XU (.int k x:D))∧(∀{k x},okA (.int k x:D)=XK (.int k x:D))∧(∀{k x},ZK (.int k x:D)=true)∧(∀{b},XU (.bool b:D)=true)∧(∀{b},XU (.str b:D)=true)∧(∀{b},XK (.bool b:D)=XU (.bool b:D))∧(∀{b},XK (.str b:D)=XU (.str b:D))∧(∀{b},okA (.bool b:D)=XK (.bool b:D))∧(∀{b},ZK (.bool b:D)=true)∧(∀{sz},ZK (.nl sz:D)=true)∧(∀{sz xs},XU (.lst sz xs:D)=true)∧(∀{sz xs},XK (.lst sz xs:D)=XU (.lst sz xs:D))∧(∀{sz xs},okA (.lst sz xs:D)=XK (.lst sz xs:D))∧(∀{sz xs},ZK (.lst sz xs:D)=true)∧(∀{sz xs},XU (.arr sz xs:D)=true)∧(∀{sz xs},XU (.nst sz xs:D)=xs.all (Qa9 sz))∧(∀{sz xs},XK (.arr sz xs:D)=XU (.arr sz xs:D))∧(∀{sz xs},okA (.arr sz xs:D)=XK (.arr sz xs:D))∧(∀{cs},XK (.agg cs:D)=cs.all XU)∧(∀{cs},okA (.agg cs:D)=XK (.agg cs:D))∧(∀{cs},ZK (.agg cs:D)=true)∧(∀{cs},okA (.tup cs:D)=cs.all XK)∧(∀{i lo len},ZK (.sl i lo len:D)=true)∧(∀{sl d0},Y6 sl d0 none=some d0)∧(∀{sl d0 x},Y6 sl d0 (some x)=(ev sl x).bind asI):=⟨rfl,rfl,rfl,rfl,rfl,rfl,rfl,rfl,rfl,rfl,rfl,rfl,rfl,rfl,rfl,rfl,rfl,rfl,rfl,rfl,rfl,rfl,rfl,rfl,rfl,rfl⟩
def Qfu(o:Option Ent):Option Nat:=match o with|some (.arr sz _)=>some sz|some (.imm sz _)=>some sz|some (.nst ..)=>some 1|_=>none
theorem QpC{n b:Nat}(h:n*b≤140737488355328)(h':n≤140737488355328):Ya n b=true:=by simp [Ya,QS,h,h']
theorem wrap_i64{n:Int}(h: -9223372036854775808≤n)(h':n≤9223372036854775807):IntKind.i64.wrap n=n:=by
 rw[IntKind.wrap_i64];omega
theorem QpD:(∀{hp i},entSz hp i=Qfu (lk hp i))∧(∀{sz l o},Qfu (some (.nst sz l o))=some 1)∧(∀{sz xs},Qfu (some (.arr sz xs))=some sz):=⟨rfl,rfl,rfl⟩
def QR(l:List Int):List D:=l.map (.int .i64)
theorem Ji(l:List Int):(QR l).length=l.length:=by simp [QR]
theorem QpE(l:List Int)(x:Int):QR l++[.int .i64 x]=QR (l++[x]):=by simp [QR]
theorem QpF(l:List Int):(QR l).all D.flatE=true:=by simp [QR,D.flatE,D.flat0]
theorem Z2:QR []=[]:=id rfl
theorem QpG(l:List Int)(i:Nat):(QR l)[i]?=(l[i]?).map (.int .i64):=by simp [QR]
theorem QpH:(∀{k x},D.cells (.int k x:D)=[(.int k x:D)])∧(∀{k x},YR (.int k x:D)=some [(.int k x:D)])∧(∀{k x},D.flat0 (.int k x:D)=true)∧(∀{k x},D.flat1 (.int k x:D)=D.flat0 (.int k x:D))∧(∀{k x},D.flat2 (.int k x:D)=D.flat1 (.int k x:D))∧(∀{k x},D.flat (.int k x:D)=D.flat2 (.int k x:D))∧(∀{hp k x},Xl hp (.int k x:D)=some (.int k x:D))∧(∀{hp k x},XE hp (.int k x:D)=Xl hp (.int k x:D))∧(∀{hp k x},Xz hp (.int k x:D)=XE hp (.int k x:D))∧(∀{hp k x},pur hp (.int k x:D)=Xl hp (.int k x:D))∧(∀{hp k x},XF hp (.int k x:D)=some ((.int k x:D),hp))∧(∀{hp k x},X2 hp (.int k x:D)=XF hp (.int k x:D))∧(∀{n k x},QW n (.int k x:D)=((.int k x:D),[],n))∧(∀{n k x},Xo n (.int k x:D)=QW n (.int k x:D))∧(∀{n k x},XP n (.int k x:D)=Xo n (.int k x:D))∧(∀{k x},D.ids (.int k x:D)=[])∧(∀{k x},D.ids0 (.int k x:D)=[])∧(∀{m k x},Ym m (.int k x:D)=decide (m=1))∧(∀{k x},Qa6 (.int k x:D)=true)∧(∀{hp n k x},XG hp n (.int k x:D)=((.int k x:D),n))∧(∀{hp n k x},XR hp n (.int k x:D)=XG hp n (.int k x:D))∧(∀{hp n k x},YW hp n (.int k x:D)=XR hp n (.int k x:D))∧(∀{b},D.cells (.bool b:D)=[(.bool b:D)])∧(∀{b},D.cells (.str b:D)=[(.str b:D)])∧(∀{b},YR (.bool b:D)=some [(.bool b:D)])∧(∀{b},YR (.str b:D)=some [(.str b:D)])∧(∀{b},D.flat0 (.bool b:D)=true)∧(∀{b},D.flat0 (.str b:D)=true)∧(∀{b},D.flat1 (.bool b:D)=D.flat0 (.bool b:D))∧(∀{b},D.flat1 (.str b:D)=D.flat0 (.str b:D))∧(∀{b},D.flat2 (.bool b:D)=D.flat1 (.bool b:D))∧(∀{b},D.flat2 (.str b:D)=D.flat1 (.str b:D))∧(∀{b},D.flat (.bool b:D)=D.flat2 (.bool b:D))∧(∀{hp b},Xl hp (.bool b:D)=some (.bool b:D))∧(∀{hp b},Xl hp (.str b:D)=some (.str b:D))∧(∀{hp b},XE hp (.bool b:D)=Xl hp (.bool b:D))∧(∀{hp b},XE hp (.str b:D)=Xl hp (.str b:D))∧(∀{hp b},Xz hp (.bool b:D)=XE hp (.bool b:D))∧(∀{hp b},Xz hp (.str b:D)=XE hp (.str b:D))∧(∀{hp b},pur hp (.bool b:D)=Xl hp (.bool b:D))∧(∀{hp b},pur hp (.str b:D)=Xl hp (.str b:D))∧(∀{hp b},XF hp (.bool b:D)=some ((.bool b:D),hp))∧(∀{hp b},XF hp (.str b:D)=some ((.str b:D),hp))∧(∀{hp b},X2 hp (.bool b:D)=XF hp (.bool b:D))∧(∀{hp b},X2 hp (.str b:D)=XF hp (.str b:D))∧(∀{n b},QW n (.bool b:D)=((.bool b:D),[],n))∧(∀{n b},QW n (.str b:D)=((.str b:D),[],n))∧(∀{n b},Xo n (.bool b:D)=QW n (.bool b:D))∧(∀{n b},Xo n (.str b:D)=QW n (.str b:D))∧(∀{n b},XP n (.bool b:D)=Xo n (.bool b:D))∧(∀{b},D.ids (.bool b:D)=[])∧(∀{b},D.ids (.str b:D)=[])∧(∀{b},D.ids0 (.bool b:D)=[])∧(∀{b},D.ids0 (.str b:D)=[])∧(∀{m b},Ym m (.bool b:D)=decide (m=1))∧(∀{m b},Ym m (.str b:D)=decide (m=1))∧(∀{b},Qa6 (.bool b:D)=true)∧(∀{b},Qa6 (.str b:D)=true)∧(∀{hp n b},XG hp n (.bool b:D)=((.bool b:D),n))∧(∀{hp n b},XG hp n (.str b:D)=((.str b:D),n))∧(∀{hp n b},XR hp n (.bool b:D)=XG hp n (.bool b:D))∧(∀{hp n b},YW hp n (.bool b:D)=XR hp n (.bool b:D))∧(∀{hp sz},Xl hp (.nl sz:D)=if sz=0 then some (.nl 0) else some (.lst sz []))∧(∀{hp sz},XE hp (.nl sz:D)=Xl hp (.nl sz:D))∧(∀{hp sz},Xz hp (.nl sz:D)=XE hp (.nl sz:D))∧(∀{hp sz},XF hp (.nl sz:D)=some (.arr sz [],hp))∧(∀{hp sz},X2 hp (.nl sz:D)=XF hp (.nl sz:D))∧(∀{sz},D.ids (.nl sz:D)=[])∧(∀{sz},D.ids0 (.nl sz:D)=[])∧(∀{hp n sz},XG hp n (.nl sz:D)=(.sl n.k 0 0,⟨n.m,n.e++[(n.k,.arr sz [])],n.k+1⟩))∧(∀{hp n sz},XR hp n (.nl sz:D)=XG hp n (.nl sz:D))∧(∀{hp n sz},YW hp n (.nl sz:D)=XR hp n (.nl sz:D))∧(∀{sz xs},D.cells (.lst sz xs:D)=[(.lst sz xs:D)])∧(∀{sz xs},YR (.lst sz xs:D)=some [(.lst sz xs:D)])∧(∀{sz xs},D.flat0 (.lst sz xs:D)=false)∧(∀{sz xs},D.flat1 (.lst sz xs:D)=D.flat0 (.lst sz xs:D))∧(∀{sz xs},D.flat2 (.lst sz xs:D)=D.flat1 (.lst sz xs:D))∧(∀{sz xs},D.flat (.lst sz xs:D)=D.flat2 (.lst sz xs:D))∧(∀{hp sz xs},Xl hp (.lst sz xs:D)=some (.lst sz xs:D))∧(∀{hp sz xs},XE hp (.lst sz xs:D)=Xl hp (.lst sz xs:D))∧(∀{hp sz xs},Xz hp (.lst sz xs:D)=XE hp (.lst sz xs:D))∧(∀{hp sz xs},XF hp (.lst sz xs:D)=some ((.lst sz xs:D),hp))∧(∀{n sz xs},QW n (.lst sz xs:D)=((.lst sz xs:D),[],n))∧(∀{n sz xs},Xo n (.lst sz xs:D)=QW n (.lst sz xs:D))∧(∀{n sz xs},XP n (.lst sz xs:D)=Xo n (.lst sz xs:D))∧(∀{sz xs},D.ids (.lst sz xs:D)=[])∧(∀{sz xs},D.ids0 (.lst sz xs:D)=[])∧(∀{m hp sz xs},rdS hp m (.lst sz xs:D)=if sz=m then some xs else none)∧(∀{m sz xs},Ym m (.lst sz xs:D)=decide (m=1))∧(∀{sz xs},Qa6 (.lst sz xs:D)=true)∧(∀{hp n sz xs},XG hp n (.lst sz xs:D)=((.lst sz xs:D),n))∧(∀{hp n sz xs},XR hp n (.lst sz xs:D)=XG hp n (.lst sz xs:D))∧(∀{hp n sz xs},YW hp n (.lst sz xs:D)=XR hp n (.lst sz xs:D))∧(∀{sz xs},D.flat1 (.arr sz xs:D)=xs.all D.flatE)∧(∀{sz xs},D.flat2 (.arr sz xs:D)=D.flat1 (.arr sz xs:D))∧(∀{sz xs},D.flat (.arr sz xs:D)=D.flat2 (.arr sz xs:D))∧(∀{n sz xs},QW n (.arr sz xs:D)=(.sl n 0 xs.length,[(n,.arr sz xs)],n+1))∧(∀{n sz xs},Xo n (.arr sz xs:D)=QW n (.arr sz xs:D))∧(∀{n sz xs},XP n (.arr sz xs:D)=Xo n (.arr sz xs:D))∧(∀{sz xs},D.flat1 (.nst sz xs:D)=xs.all D.flatA)∧(∀{n sz xs},QW n (.nst sz xs:D)=(.sl n 0 xs.length,[(n,Ent.nst sz (xs.map (ZW sz)) none)],n+1)):=⟨rfl,rfl,rfl,rfl,rfl,rfl,rfl,rfl,rfl,rfl,rfl,rfl,rfl,rfl,rfl,rfl,rfl,rfl,rfl,rfl,rfl,rfl,rfl,rfl,rfl,rfl,rfl,rfl,rfl,rfl,rfl,rfl,rfl,rfl,rfl,rfl,rfl,rfl,rfl,rfl,rfl,rfl,rfl,rfl,rfl,rfl,rfl,rfl,rfl,rfl,rfl,rfl,rfl,rfl,rfl,rfl,rfl,rfl,rfl,rfl,rfl,rfl,rfl,rfl,rfl,rfl,rfl,rfl,rfl,rfl,rfl,rfl,rfl,rfl,rfl,rfl,rfl,rfl,rfl,rfl,rfl,rfl,rfl,rfl,rfl,rfl,rfl,rfl,rfl,rfl,rfl,rfl,rfl,rfl,rfl,rfl,rfl,rfl,rfl,rfl,rfl⟩
theorem Qi1{cs:List D}:D.cells (.agg cs:D)=cs:=id rfl
theorem QpI{sl:qSl}{hp:qHp}{a x}:Qep sl hp a x=(match ev sl a,ev sl x with
 |some (.pt id off),some (.clo f cs)=>match XO QbK hp cs with
  |some (es,hp1)=>match lk hp1 id with
   |some (.box l)=>if off+1≤l.length then some (up hp1 id (.box (XQ l off [.clo f es]))) else none
   |_=>none
  |none=>none
 |_,_=>none):=id rfl
theorem QpJ:(∀{cs},YR (.agg cs:D)=some cs)∧(∀{cs},D.flatE (.agg cs:D)=cs.all D.flat0)∧(∀{cs},D.flat2 (.agg cs:D)=cs.all D.flat1)∧(∀{cs},D.flat (.agg cs:D)=D.flat2 (.agg cs:D))∧(∀{hp cs},XE hp (.agg cs:D)=(QU (Xl hp) cs).map .agg)∧(∀{hp cs},Xz hp (.agg cs:D)=XE hp (.agg cs:D))∧(∀{hp cs},pur hp (.agg cs:D)=(QU (Xl hp) cs).map .agg)∧(∀{hp cs},X2 hp (.agg cs:D)=(XO XF hp cs).map fun (l,hp)=>(.agg l,hp))∧(∀{n cs},Xo n (.agg cs:D)=(.agg (Xa QW n cs).1,(Xa QW n cs).2))∧(∀{n cs},XP n (.agg cs:D)=Xo n (.agg cs:D))∧(∀{cs},D.ids (.agg cs:D)=cs.flatMap D.ids0)∧(∀{m cs},Ym m (.agg cs:D)=(decide (cs.length=m)&&cs.all Qa6))∧(∀{cs},D.flat (.tup cs:D)=cs.all D.flat2)∧(∀{n cs},XP n (.tup cs:D)=(.tup (Xa Xo n cs).1,(Xa Xo n cs).2))∧(∀{hp cs},XE hp (.ref cs:D)=some (.ref cs:D))∧(∀{hp cs},Xz hp (.ref cs:D)=XE hp (.ref cs:D))∧(∀{n cs},QW n (.ref cs:D)=((.ref cs:D),[],n))∧(∀{n cs},Xo n (.ref cs:D)=QW n (.ref cs:D))∧(∀{hp n cs},XG hp n (.ref cs:D)=((.ref cs:D),n))∧(∀{hp n cs},XR hp n (.ref cs:D)=XG hp n (.ref cs:D))∧(∀{hp n cs},YW hp n (.ref cs:D)=XR hp n (.ref cs:D))∧(∀{cs},D.flat2 (.box cs:D)=cs.all D.flat1)∧(∀{cs},D.flat (.box cs:D)=D.flat2 (.box cs:D))∧(∀{n cs},Xo n (.box cs:D)=(.pt n 0,(n,.box (Xa QW (n+1) cs).1)::(Xa QW (n+1) cs).2.1,(Xa QW (n+1) cs).2.2))∧(∀{hp f cs},Xz hp (.clo f cs:D)=(QU (XE hp) cs).map (.clo f))∧(∀{hp f cs},X2 hp (.clo f cs:D)=(XO ZV hp cs).map fun (l,hp)=>(.clb f l,hp))∧(∀{hp i off},ZV hp (.pt i off:D)=(match lk hp i with|some (.box cs)=>if off=0 then (XO JQ (rm hp i) cs).map fun (l,hp)=>(.box l,hp) else none|_=>none))∧(∀{hp sz xs},JQ hp (.lst sz xs:D)=XF hp (.lst sz xs:D))∧(∀{f cs},D.flat0 (.clb f cs:D)=false)∧(∀{f cs},D.flat1 (.clb f cs:D)=D.flat0 (.clb f cs:D))∧(∀{f cs},D.flat2 (.clb f cs:D)=D.flat1 (.clb f cs:D))∧(∀{f cs},D.flat (.clb f cs:D)=D.flat2 (.clb f cs:D))∧(∀{n f cs},QW n (.clo f cs:D)=((.clo f cs:D),[],n))∧(∀{n f cs},Xo n (.clo f cs:D)=QW n (.clo f cs:D))∧(∀{f cs},Jv (.clo f cs:D)=some (f,cs))∧(∀{hp n f cs},YW hp n (.clo f cs:D)=(.clo f (Yf (XR hp) n cs).1,(Yf (XR hp) n cs).2))∧(∀{i lo len},YR (.sl i lo len:D)=some [(.sl i lo len:D)])∧(∀{hp i lo len},Xl hp (.sl i lo len:D)=(match lk hp i with|some (.arr sz xs)=>if lo=0∧len=xs.length then some (.lst sz xs) else if lo+len≤xs.length then some (.lst sz ((xs.drop lo).take len)) else none|some (.imm sz xs)=>if lo=0∧len=xs.length then some (.lst sz xs) else if lo+len≤xs.length then some (.lst sz ((xs.drop lo).take len)) else none|some (.nst sz l none)=>if lo=0∧len=l.length then (Zb sz l).map (.lst 1) else none|_=>none))∧(∀{hp i lo len},XE hp (.sl i lo len:D)=Xl hp (.sl i lo len:D))∧(∀{hp i lo len},Xz hp (.sl i lo len:D)=XE hp (.sl i lo len:D))∧(∀{hp i lo len},pur hp (.sl i lo len:D)=Xl hp (.sl i lo len:D))∧(∀{hp i lo len},XF hp (.sl i lo len:D)=(match lk hp i with|some (.arr sz xs)=>if lo=0 then (if len=xs.length then some (.arr sz xs,rm hp i) else if len≤xs.length then some (.arr sz (xs.take len),rm hp i) else none) else none|some (.imm sz xs)=>if lo=0∧len=xs.length then some (.lst sz xs,hp) else if lo+len≤xs.length then some (.lst sz ((xs.drop lo).take len),hp) else none|some (.nst sz l none)=>if lo=0∧len=l.length then (Qat sz l).map fun es=>(.nst sz es,rm hp i) else none|_=>none))∧(∀{hp i lo len},X2 hp (.sl i lo len:D)=XF hp (.sl i lo len:D))∧(∀{i lo len},D.ids (.sl i lo len:D)=[i])∧(∀{i lo len},D.ids0 (.sl i lo len:D)=[i])∧(∀{m hp i lo len},rdS hp m (.sl i lo len:D)=(match lk hp i with|some (.arr sz' xs)=>if sz'=m then (if lo=0∧len=xs.length then some xs else if lo+len≤xs.length then some ((xs.drop lo).take len) else none) else none|some (.imm sz' xs)=>if sz'=m then (if lo=0∧len=xs.length then some xs else if lo+len≤xs.length then some ((xs.drop lo).take len) else none) else none|_=>none))∧(∀{hp n i lo len},XG hp n (.sl i lo len:D)=(match lk n.m i with|some j=>(.sl j lo len,n)|none=>match lk hp i with|some (.box _)=>(.undef,n)|some (.nst sz l _)=>(.sl n.k lo len,⟨(i,n.k)::n.m,n.e++[(n.k,.nst sz l none)],n.k+1⟩)|some e=>(.sl n.k lo len,⟨(i,n.k)::n.m,n.e++[(n.k,e)],n.k+1⟩)|none=>(.undef,n)))∧(∀{hp n i lo len},XR hp n (.sl i lo len:D)=XG hp n (.sl i lo len:D))∧(∀{hp n i lo len},YW hp n (.sl i lo len:D)=XR hp n (.sl i lo len:D))∧(∀{hp i off},XE hp (.pt i off:D)=(match lk hp i with|some (.box cs)=>(QU (Xl hp) cs).map fun l=>.ref (l.drop off)|_=>none))∧(∀{hp i off},Xz hp (.pt i off:D)=XE hp (.pt i off:D))∧(∀{hp i off},X2 hp (.pt i off:D)=(match lk hp i with|some (.box cs)=>if off=0 then (XO XF (rm hp i) cs).map fun (l,hp)=>(.box l,hp) else none|_=>none))∧(∀{hp n i off},XR hp n (.pt i off:D)=(match lk n.m i with|some j=>(.pt j off,n)|none=>match lk hp i with|some (.box cs)=>QcL i off (Yf (XG hp) n cs)|some (.it m es seen)=>(.pt n.k off,⟨(i,n.k)::n.m,n.e++[(n.k,.it m es seen)],n.k+1⟩)|_=>(.undef,n)))∧(∀{hp n i off},YW hp n (.pt i off:D)=XR hp n (.pt i off:D))∧(D.ids (.undef:D)=[])∧(∀{x},asI (.int .i64 x)=some x)∧(∀{k a b},YT .add (.int k a) (.int k b)=if k=k then Yh .add k a b else none)∧(∀{k a b},YT .sub (.int k a) (.int k b)=if k=k then Yh .sub k a b else none)∧(∀{k a b},YT .mul (.int k a) (.int k b)=if k=k then Yh .mul k a b else none)∧(∀{k a b},YT .quo (.int k a) (.int k b)=if k=k then Yh .quo k a b else none)∧(∀{k a b},YT .rem (.int k a) (.int k b)=if k=k then Yh .rem k a b else none)∧(∀{k a b},YT .and (.int k a) (.int k b)=if k=k then Yh .and k a b else none)∧(∀{k a b},YT .eql (.int k a) (.int k b)=if k=k then Yh .eql k a b else none)∧(∀{k a b},YT .neq (.int k a) (.int k b)=if k=k then Yh .neq k a b else none)∧(∀{k a b},YT .lss (.int k a) (.int k b)=if k=k then Yh .lss k a b else none)∧(∀{k a b},YT .leq (.int k a) (.int k b)=if k=k then Yh .leq k a b else none)∧(∀{k a b},YT .gtr (.int k a) (.int k b)=if k=k then Yh .gtr k a b else none)∧(∀{k a b},YT .geq (.int k a) (.int k b)=if k=k then Yh .geq k a b else none)∧(∀{k k' a b},YT .shr (.int k a) (.int k' b)=if b<0 then none else some (.int k (a.fdiv (2 ^ (min b.toNat k.bits)))))∧(∀{a b},Qa3 false (.bool a) (.bool b)=some (.bool (decide (a=b))))∧(X3 [] []=some true)∧(∀{k k' a b l m},X3 (.int k a::l) (.int k' b::m)=if k=k' then (X3 l m).map fun c=>decide (a=b)&&c else none)∧(∀{k k' x y},Qa4 (.int k x) (.int k' y)=if k=k' then some (.int k (if y<x then y else x)) else none)∧(∀{k k' x y},Qa5 (.int k x) (.int k' y)=if k=k' then some (.int k (if x<y then y else x)) else none)∧(∀{sz xs},Ent.frozen (.arr sz xs)=(.imm sz xs))∧(∀{sz xs},Ent.frozen (.imm sz xs)=(.imm sz xs))∧(∀{sz l},Ent.frozen (.nst sz l none)=(match Zb sz l with|some es=>.imm 1 es|none=>.nst sz l none))∧(∀{cs},Ent.frozen (.box cs)=(.box cs)):=⟨rfl,rfl,rfl,rfl,rfl,rfl,rfl,rfl,rfl,rfl,rfl,rfl,rfl,rfl,rfl,rfl,rfl,rfl,rfl,rfl,rfl,rfl,rfl,rfl,rfl,rfl,rfl,rfl,rfl,rfl,rfl,rfl,rfl,rfl,rfl,rfl,rfl,rfl,rfl,rfl,rfl,rfl,rfl,rfl,rfl,rfl,rfl,rfl,rfl,rfl,rfl,rfl,rfl,rfl,rfl,rfl,rfl,rfl,rfl,rfl,rfl,rfl,rfl,rfl,rfl,rfl,rfl,rfl,rfl,rfl,rfl,rfl,rfl,rfl,rfl,rfl,rfl,rfl⟩
def Qi2{β:Type}:Option β→Option (List β)→Option (List β)
 |some b,some m=>some (b::m)
 |_,_=>none
def Qfv(hp:qHp)(o:Option (List D)):Option (List D×qHp):=o.map fun l=>(l,hp)
def Qfw{β:Type}(e:β):Option (List β×qHp)→Option (List β×qHp)
 |some (l,hp)=>some (e::l,hp)
 |none=>none
def Qi3{β:Type}(f:qHp→D→Option (β×qHp))(o:Option (β×qHp))(ds:List D):Option (List β×qHp):=match o with
 |some (e,hp)=>Qfw e (XO f hp ds)
 |none=>none
def Qfx{β:Type}(b:β)(e:qHp)(r:List β×qHp×Nat):List β×qHp×Nat:=(b::r.1,e++r.2.1,r.2.2)
def Qi4{β:Type}(f:Nat→D→β×qHp×Nat)(r:β×qHp×Nat)(ds:List D):List β×qHp×Nat:=Qfx r.1 r.2.1 (Xa f r.2.2 ds)
def Qfy(d:D)(r:List D×NS):List D×NS:=(d::r.1,r.2)
def Qi5(f:NS→D→D×NS)(r:D×NS)(ds:List D):List D×NS:=Qfy r.1 (Yf f r.2 ds)
def Qi6(r:qSl×NS):St:=⟨r.1,r.2.e,r.2.k⟩
def Qfz(t:Nat)(d:D)(r:qSl×NS):qSl×NS:=((t,d)::r.1,r.2)
def QfA(s:St)(t:Nat)(l:List Nat)(r:D×NS):qSl×NS:=Qfz t r.1 (Zg s l r.2)
def Qi7(s:St)(t:Nat)(l:List Nat)(n:NS):Option D→qSl×NS
 |some d=>QfA s t l (YW s.hp n d)
 |none=>Zg s l n
def Qi8(r:qSl×qHp×Nat):St:=⟨r.1,r.2.1,r.2.2⟩
def QfB(t:Nat)(d:D)(e:qHp)(r:qSl×qHp×Nat):qSl×qHp×Nat:=((t,d)::r.1,e++r.2.1,r.2.2)
def Qi9(t:Nat)(r:D×qHp×Nat)(ds:List D):qSl×qHp×Nat:=QfB t r.1 r.2.1 (Zp (t+1) r.2.2 ds)
theorem QpK{α β:Type}{f:α→Option β}{a:α}{l:List α}:QU f (a::l)=Qi2 (f a) (QU f l):=by simp only[QU];cases f a<;>cases QU f l<;>rfl
theorem QpL:(∀{α:Type}{n:Nat},lk ([]:List (Nat×α)) n=none)∧(∀{α:Type}{k n:Nat}{a:α}{l:List (Nat×α)},lk ((k,a)::l) n=if n=k then some a else lk l n)∧(∀{α:Type}{n:Nat}{x:α},up ([]:List (Nat×α)) n x=[(n,x)])∧(∀{α:Type}{k n:Nat}{a x:α}{l:List (Nat×α)},up ((k,a)::l) n x=if n=k then (k,x)::l else (k,a)::up l n x)∧(∀{α:Type}{n:Nat},rm ([]:List (Nat×α)) n=[])∧(∀{α:Type}{k n:Nat}{a:α}{l:List (Nat×α)},rm ((k,a)::l) n=if n=k then rm l n else (k,a)::rm l n)∧(∀{keep},fil keep []=[])∧(∀{keep t d l},fil keep ((t,d)::l)=if keep.contains t then (t,d)::fil keep l else fil keep l)∧(∀{t d l},Q5 (some t) d l=up l t d)∧(∀{d l},Q5 none d l=l)∧(∀{n l},ev l (.t n)=lk l n)∧(∀{d l},ev l (.k d)=some d)∧(∀{α β:Type}{f:α→Option β},QU f []=some [])∧(∀{β:Type}{b:β}{l:List β},Qi2 (some b) (some l)=some (b::l))∧(∀{hp ds},Zo hp [] ds=Qfv hp (QU (Xz hp) ds))∧(∀{hp ds},Qfv hp (some ds)=some (ds,hp))∧(∀{β:Type}{f:qHp→D→Option (β×qHp)}{hp:qHp},XO f hp []=some ([],hp))∧(∀{β:Type}{f:qHp→D→Option (β×qHp)}{hp:qHp}{d:D}{ds:List D},XO f hp (d::ds)=Qi3 f (f hp d) ds)∧(∀{β:Type}{f:qHp→D→Option (β×qHp)}{hp:qHp}{e:β}{ds:List D},Qi3 f (some (e,hp)) ds=Qfw e (XO f hp ds))∧(∀{β:Type}{hp:qHp}{e:β}{ds:List β},Qfw e (some (ds,hp))=some (e::ds,hp))∧(∀{β:Type}{f:Nat→D→β×qHp×Nat}{n:Nat},Xa f n []=([],[],n))∧(∀{β:Type}{f:Nat→D→β×qHp×Nat}{n:Nat}{d:D}{ds:List D},Xa f n (d::ds)=Qi4 f (f n d) ds)∧(∀{β:Type}{f:Nat→D→β×qHp×Nat}{b:β}{e:qHp}{n:Nat}{ds:List D},Qi4 f (b,e,n) ds=Qfx b e (Xa f n ds))∧(∀{β:Type}{b:β}{e e':qHp}{n:Nat}{l:List β},Qfx b e (l,e',n)=(b::l,e++e',n))∧(∀{keep s},norm keep s=Qi6 (Zg s keep ⟨[],[],0⟩))∧(∀{l m e k},Qi6 (l,⟨m,e,k⟩)=⟨l,e,k⟩)∧(∀{s n},Zg s [] n=([],n))∧(∀{sl hp x t l n},Zg ⟨sl,hp,x⟩ (t::l) n=Qi7 ⟨sl,hp,x⟩ t l n (lk sl t))∧(∀{sl hp x t l n d},Qi7 ⟨sl,hp,x⟩ t l n (some d)=QfA ⟨sl,hp,x⟩ t l (YW hp n d))∧(∀{s t l n d},QfA s t l (d,n)=Qfz t d (Zg s l n))∧(∀{t d l n},Qfz t d (l,n)=((t,d)::l,n))∧(∀{f:NS→D→D×NS}{n:NS},Yf f n []=([],n))∧(∀{f:NS→D→D×NS}{n:NS}{d:D}{ds:List D},Yf f n (d::ds)=Qi5 f (f n d) ds)∧(∀{f:NS→D→D×NS}{n:NS}{d:D}{ds:List D},Qi5 f (d,n) ds=Qfy d (Yf f n ds))∧(∀{n d ds},Qfy d (ds,n)=(d::ds,n))∧(∀{i off k l m e},QcL i off (l,⟨m,e,k⟩)=(.pt k off,⟨(i,k)::m,e++[(k,.box l)],k+1⟩))∧(∀{ds},init ds=Qi8 (Zp 0 0 ds))∧(∀{sl hp n},Qi8 (sl,hp,n)=⟨sl,hp,n⟩)∧(∀{t n},Zp t n []=([],[],n))∧(∀{t n d ds},Zp t n (d::ds)=Qi9 t (Xo n d) ds)∧(∀{t n d e ds},Qi9 t (d,e,n) ds=QfB t d e (Zp (t+1) n ds))∧(∀{t n d sl e e'},QfB t d e (sl,e',n)=((t,d)::sl,e++e',n)):=⟨rfl,rfl,rfl,rfl,rfl,rfl,rfl,rfl,rfl,rfl,rfl,rfl,rfl,rfl,rfl,rfl,rfl,rfl,rfl,rfl,rfl,rfl,rfl,rfl,rfl,rfl,rfl,rfl,rfl,rfl,rfl,rfl,rfl,rfl,rfl,rfl,rfl,rfl,rfl,rfl,rfl,rfl⟩
def Qdj(hp0:qHp)(ds:List D)(l:qSl)(hp:qHp)(id:Nat)(a:List D×qHp×Nat):Option (Nat×qHp):=Yb hp0 ds a.2.2 l ((id,.box a.1)::(a.2.1++hp))
def Qja(hp0:qHp)(ds:List D)(l:qSl)(o:Option (Nat×qHp)):Option (Nat×qHp):=match o with
 |some (n',hp')=>Yb hp0 ds n' l hp'
 |none=>none
def Qdk(hp0:qHp)(ds:List D)(n:Nat)(l:qSl)(hp:qHp)(m:Option D)(d:D):Option (Nat×qHp):=match m,d with
 |some (.sl id 0 len),.arr sz xs=>if xs.length=len∧JX hp0 id=some sz then Yb hp0 ds n l ((id,.arr sz xs)::hp) else none
 |some (.pt id 0),.box cs=>if cs.all XU=true then Qdj hp0 ds l hp id (Xa QW n cs) else none
 |some (.clo f cs),.clb f' bs=>if f=f' then Qja hp0 ds l (YJ n cs bs hp) else none
 |_,_=>none
def Qjb(f:qHp→Option (List D×qHp))(o:Option (D×qHp)):Option (List D×qHp):=match o with
 |some (e,hp1)=>match f hp1 with
  |some (l,hp2)=>some (e::l,hp2)
  |none=>none
 |none=>none
def Qjc(e:D)(o:Option (List D×qHp)):Option (List D×qHp):=match o with
 |some (l,hp2)=>some (e::l,hp2)
 |none=>none
def Qb4(o:Option D)(p:Option (List D)):Option (List D):=match o,p with
 |some e,some l=>some (e::l)
 |_,_=>none
def Qjd(md:List Md)(o:Option (List D×qHp)):Option (List D×qHp):=match o with
 |some (es,hp1)=>(XL hp1 md es).map fun l=>(l,hp1)
 |none=>none
def QfC(l:List Nat)(i:Nat)(hp:qHp)(o:Option Ent):qHp:=match o with
 |some e=>Q9 l (up hp i e.frozen)
 |none=>Q9 l hp
def QfD(n:Nat)(d:D)(o:Option (Nat×qHp)):Option (D×qHp):=match o with
 |some (n',hp')=>if n'≤n+64 then some (d,hp') else none
 |none=>none
def QfE(n:Nat)(hp0:qHp)(ds:List D)(outs:qSl)(a:D×qHp×Nat)(hp:qHp):Option (D×qHp):=QfD n a.1 (Yb hp0 ds a.2.2 outs (a.2.1++hp))
def QfF(sl:qSl)(off n:Nat)(ps:List (Nat×Nat×X))(cs:List D)(o:Option (List D)):Option (List D):=match o with
 |some l=>if l.length=n∧off+n≤cs.length then Zc sl ps (XQ cs off l) else none
 |none=>none
def bs4(ids:List Nat)(o:Option (List D×List Nat)):Option (List D×List Nat):=o.map fun (l,f)=>(l,ids++f)
def bs3(sl:qSl)(hp:qHp)(sz i:Nat)(ps:List (Nat×X))(es:List D)(ids:List Nat)(o:Option D):Option (List D×List Nat):=match o with
 |some e=>if Ym sz e∧i<es.length then bs4 ids (Yn sl hp sz ps (es.set i e)) else none
 |none=>none
def bs2(sl:qSl)(hp:qHp)(sz i:Nat)(ps:List (Nat×X))(es:List D)(o:Option D):Option (List D×List Nat):=match o with
 |some d=>bs3 sl hp sz i ps es d.ids (pur hp d)
 |none=>none
def QfG(f:D→D→Option D)(l:List D)(o:Option D):Option D:=match o with
 |some c=>YU f c l
 |none=>none
def rv3(ag:Bool)(m:Nat)(o:Option Ent):Option D:=match o with
 |some (.box cs)=>Yv ag 0 m cs
 |_=>none
def rv2(s:St)(ag:Bool)(m:Nat)(o:Option D):Option D:=match o with
 |some (.pt id 0)=>rv3 ag m (lk s.hp id)
 |_=>none
def Qbr:List D→D
 |[d]=>d
 |l=>.tup l
def QfH(outs:List Nat)(n:Nat)(o:Option (List D×qHp)):Option (D×qSl):=match o with
 |some (l,_)=>if l.length=n+outs.length then some (Qbr (l.take n),outs.zip (l.drop n)) else none
 |none=>none
def QfI(s:St)(outs:List Nat)(o:Option (List D)):Option (D×qSl):=match o with
 |some ds=>QfH outs ds.length (XO X2 s.hp (ds++(outs.filterMap fun i=>lk s.sl i)))
 |none=>none
theorem QpM{n:Nat}{sl:qSl}{hp:qHp}{c a b}:eff n sl hp (.pick c a b)=(match ev sl c with
  |some (.bool true)=>(ev sl a).map fun d=>(d,hp)
  |some (.bool false)=>(ev sl b).map fun d=>(d,hp)
  |_=>none):=id rfl
theorem QpN{n:Nat}{sl:qSl}{hp:qHp}{ag m x}:eff n sl hp (.load ag m x)=(match ev sl x with
  |some (.pt id off)=>match lk hp id with
   |some (.box cs)=>(Yv ag off m cs).map fun d=>(d,hp)
   |_=>none
  |some (.ref cs)=>(Yv ag 0 m cs).map fun d=>(d,hp)
  |some (.pe id i off)=>match lk hp id with
   |some (.arr _ xs)=>match xs[i]? with
    |some e=>(Yv ag off m e.cells).map fun d=>(d,hp)
    |none=>none
   |some (.imm _ xs)=>match xs[i]? with
    |some e=>(Yv ag off m e.cells).map fun d=>(d,hp)
    |none=>none
   |_=>none
  |_=>none):=id rfl
theorem QpO{n:Nat}{sl:qSl}{hp:qHp}{m a x}:eff n sl hp (.store m a x)=(match ev sl a,ev sl x with
  |some (.pt id off),some d=>match lk hp id,YR d with
   |some (.box cs),some l=>if l.length=m∧off+m≤cs.length then some (.undef,up hp id (.box (XQ cs off l))) else none
   |_,_=>none
  |some (.pe id i off),some d=>match lk hp id with
   |some (.arr sz xs)=>match xs[i]?,pur hp d with
    |some e,some d'=>if d'.cells.length=m∧off+m≤e.cells.length∧d.ids.contains id=false then
      (if m=sz then (if Ym sz d' then some (.undef,up (Q9 d.ids hp) id (.arr sz (xs.set i d'))) else none)
       else if Ym sz (.agg (XQ e.cells off d'.cells)) then some (.undef,up (Q9 d.ids hp) id (.arr sz (xs.set i (.agg (XQ e.cells off d'.cells))))) else none) else none
    |_,_=>none
   |_=>none
  |_,_=>none):=id rfl
theorem QpP{n:Nat}{sl:qSl}{hp:qHp}{op x y}:eff n sl hp (.bin op x y)=(match ev sl x,ev sl y with
  |some a,some b=>(YT op a b).map fun d=>(d,hp)
  |_,_=>none):=id rfl
theorem QpQ{n:Nat}{sl:qSl}{hp:qHp}{m neg x y}:eff n sl hp (.eqA m neg x y)=(match ev sl x,ev sl y with
  |some (.agg a),some (.agg b)=>if a.length=m then (X3 a b).map fun c=>(.bool (if neg then !c else c),hp) else none
  |_,_=>none):=id rfl
theorem QpR:(∀{n sl hp x},eff n sl hp (.mov x)=((ev sl x).map fun d=>(d,hp)))∧(∀{n sl hp z},eff n sl hp (.alloc z)=(some (.pt n 0,up hp n (.box z))))∧(∀{n sl hp x},eff n sl hp (.bx x)=(((ev sl x).bind YR).map fun cs=>(.pt n 0,up hp n (.box cs))))∧(∀{n sl hp z ps},eff n sl hp (.build z ps)=((Zc sl ps z).map fun cs=>(.agg cs,hp)))∧(∀{n sl hp sz by_ z m ps},eff n sl hp (.buildSl sz by_ z m ps)=(if Ya m by_ then (Yn sl hp sz ps (List.replicate m z)).map fun (es,f)=>(.sl n 0 m,up (Q9 f hp) n (.arr sz es)) else none)):=⟨rfl,rfl,rfl,rfl,rfl⟩
def sf2(f:SF)(hp:qHp)(o:Option (List D)):Option (D×qHp):=match o with
 |some ds=>(sfD f ds).map fun d=>(d,hp)
 |none=>none
theorem QpS{n:Nat}{sl:qSl}{hp:qHp}{neg x y}:eff n sl hp (.eqB neg x y)=(match ev sl x,ev sl y with
  |some a,some b=>(Qa3 neg a b).map fun d=>(d,hp)
  |_,_=>none):=id rfl
theorem QpT{n:Nat}{sl:qSl}{hp:qHp}{x}:eff n sl hp (.not x)=(match ev sl x with
  |some (.bool b)=>some (.bool (!b),hp)
  |_=>none):=id rfl
theorem QpU{n:Nat}{sl:qSl}{hp:qHp}{k x}:eff n sl hp (.conv k x)=(match ev sl x with
  |some (.int _ m)=>some (.int k (k.wrap m),hp)
  |_=>none):=id rfl
theorem QpV{n:Nat}{sl:qSl}{hp:qHp}{sz by_ z l}:eff n sl hp (.makeSl sz by_ z l)=(match (ev sl l).bind asI with
  |some m=>if 0≤m∧Ya m.toNat by_ then some (.sl n 0 m.toNat,up hp n (.arr sz (List.replicate m.toNat z))) else none
  |none=>none):=id rfl
theorem QpW{n:Nat}{sl:qSl}{hp:qHp}{sz x lo hi}:eff n sl hp (.slc sz x lo hi)=(match ev sl x,Y6 sl 0 lo with
  |some (.sl id lo0 len),some l=>match Y6 sl len hi with
   |some h=>if 0≤l∧l≤h∧h≤len∧entSz hp id=some sz then some (.sl id (lo0+l.toNat) (h.toNat-l.toNat),hp) else none
   |none=>none
  |some (.lst sz' xs),some l=>match Y6 sl xs.length hi with
   |some h=>if 0≤l∧l≤h∧h≤xs.length∧sz'=sz then some (.lst sz ((xs.take h.toNat).drop l.toNat),hp) else none
   |none=>none
  |some (.nl sz'),some l=>match Y6 sl 0 hi with
   |some h=>if l=0∧h=0 then some (.nl sz',hp) else none
   |none=>none
  |_,_=>none):=id rfl
theorem QpX{n:Nat}{sl:qSl}{hp:qHp}{off x}:eff n sl hp (.fad off x)=(match ev sl x with
  |some (.pt id o)=>some (.pt id (o+off),hp)
  |some (.ref cs)=>if off≤cs.length then some (.ref (cs.drop off),hp) else none
  |some (.pe id i o)=>some (.pe id i (o+off),hp)
  |_=>none):=id rfl
theorem QpY{n:Nat}{sl:qSl}{hp:qHp}{sz x i}:eff n sl hp (.iad sz x i)=(match ev sl x,(ev sl i).bind asI with
  |some (.sl id lo len),some j=>if 0≤j∧j<len∧entSz hp id=some sz then some (.pe id (lo+j.toNat) 0,hp) else none
  |some (.lst sz' xs),some j=>if 0≤j∧sz'=sz then (match xs[j.toNat]? with|some e=>some (.ref e.cells,hp)|none=>none) else none
  |_,_=>none):=id rfl
theorem QpZ{n:Nat}{sl:qSl}{hp:qHp}{m sz x i}:eff n sl hp (.iaa m sz x i)=(match ev sl x,(ev sl i).bind asI with
  |some (.pt id o),some j=>if 0≤j∧j<m then some (.pt id (o+j.toNat*sz),hp) else none
  |some (.ref cs),some j=>if 0≤j∧j<m∧j.toNat*sz≤cs.length then some (.ref (cs.drop (j.toNat*sz)),hp) else none
  |_,_=>none):=id rfl
theorem Qp0{n:Nat}{sl:qSl}{hp:qHp}{sz by_ x y}:eff n sl hp (.app sz by_ x y)=(match ev sl x,(ev sl y).bind (rdS hp sz) with
  |some (.nl _),some ys=>if Ya ys.length by_ then some (.sl n 0 ys.length,up hp n (.arr sz ys)) else none
  |some (.sl id lo len),some ys=>match lk hp id with
   |some (.arr sz' xs)=>if lo=0∧sz'=sz∧Ya (len+ys.length) by_ then
     (if len=xs.length then some (.sl n 0 (len+ys.length),up (rm hp id) n (.arr sz (xs++ys)))
      else if len≤xs.length then some (.sl n 0 (len+ys.length),up (rm hp id) n (.arr sz (xs.take len++ys))) else none) else none
   |_=>none
  |_,_=>none):=id rfl
theorem Qp1{n:Nat}{sl:qSl}{hp:qHp}{sz x}:eff n sl hp (.clr sz x)=(match ev sl x with
  |some (.nl _)=>some (.undef,hp)
  |some (.sl id lo len)=>match lk hp id with
   |some (.arr sz' xs)=>if sz'=sz∧lo≤xs.length∧xs.length≤lo+len then some (.undef,up hp id (.arr sz (xs.take lo))) else none
   |_=>none
  |_=>none):=id rfl
theorem Qp2{n:Nat}{sl:qSl}{hp:qHp}{by_ x}:eff n sl hp (.bsn by_ x)=(match ev sl x with
  |some (.nl sz)=>if Ya 1 by_ then some (.sl n 0 1,up hp n (.nst sz [some []] none)) else none
  |some (.sl m lo len)=>match lk hp m with
   |some (.arr sz xs)=>if lo=0∧len=xs.length∧Ya 1 by_ then some (.sl n 0 1,up (rm hp m) n (.nst sz [some xs] none)) else none
   |_=>none
  |_=>none):=id rfl
theorem Qp3{n:Nat}{sl:qSl}{hp:qHp}{by_ x y}:eff n sl hp (.apn by_ x y)=(match ev sl x,ev sl y with
  |some (.nl _),some (.sl j lo k)=>match lk hp j with
   |some (.nst sz [some ys] none)=>if lo=0∧k=1∧Ya 1 by_ then some (.sl n 0 1,up (rm hp j) n (.nst sz [some ys] none)) else none
   |_=>none
  |some (.sl id lo' len),some (.sl j lo k)=>match lk hp id,lk hp j with
   |some (.nst sz' l none),some (.nst sz [some ys] none)=>if lo=0∧lo'=0∧len=l.length∧k=1∧sz'=sz∧id≠j∧Ya (len+1) by_ then some (.sl n 0 (len+1),up (rm (rm hp id) j) n (.nst sz (l++[some ys]) none)) else none
   |some (.arr s' []),some (.nst sz [some ys] none)=>if lo=0∧lo'=0∧len=0∧s'=1∧k=1∧Ya 1 by_ then some (.sl n 0 1,up (rm (rm hp id) j) n (.nst sz [some ys] none)) else none
   |_,_=>none
  |_,_=>none):=id rfl
theorem Qp4:(∀{f hp ds},sf2 f hp (some ds)=(sfD f ds).map fun d=>(d,hp))∧(∀{n sl hp f xs},eff n sl hp (.sf f xs)=sf2 f hp (QU (ev sl) xs))∧(∀{a b},sfD .eql [.str a,.str b]=some (.bool (decide (a=b))))∧(∀{a},sfD .len [.str a]=some (.int .i64 a.size))∧(∀{a l h},sfD (.sli true true) [.str a,.int .i64 l,.int .i64 h]=if 0≤l∧l≤h∧h≤a.size then some (.str (a.extract l.toNat h.toNat)) else none)∧(∀{n sl hp f caps},eff n sl hp (.mkf f caps)=((QU (ev sl) caps).map fun l=>(.clo f l,hp))):=⟨rfl,rfl,rfl,rfl,rfl,rfl⟩
def tk2(sl:qSl)(hp:qHp)(x:X):Option (D×qHp)→Option (D×qHp)
 |some r=>some r
 |none=>ldE sl hp false 1 x
theorem Qp5{n:Nat}{sl:qSl}{hp:qHp}{x}:tkE n sl hp x=(match ev sl x with
  |some (.pe id i off)=>match lk hp id with
   |some (.nst sz l none)=>match l[i]? with
    |some (some xs)=>if off=0∧0<xs.length then some (.sl n 0 xs.length,up (up (up hp id (.nst sz (l.set i none) (some (i,n,xs.length)))) n (.arr sz xs)) (n+1) (.lnk id)) else none
    |_=>none
   |_=>none
  |_=>none):=id rfl
theorem Qp6:(∀{n sl hp x},eff n sl hp (.tk x)=tk2 sl hp x (tkE n sl hp x))∧(∀{sl hp x r},tk2 sl hp x (some r)=some r):=⟨rfl,rfl⟩
def pu2(m:Nat):Option (D×qHp)→Option (D×qHp)
 |some (u,hp1)=>(Jt hp1 m).map fun hp2=>(u,hp2)
 |none=>none
theorem Qp7{n:Nat}{sl:qSl}{hp:qHp}{a x}:eff n sl hp (.pu a x)=(match ev sl a with
  |some (.pe m _ _)=>match ev sl x with
   |some (.int ..)=>pu2 m (eff n sl hp (.store 1 a x))
   |_=>none
  |_=>eff n sl hp (.store 1 a x)):=id rfl
theorem Qp8{hp:qHp}{m:Nat}:Jt hp m=(match lk hp (m+1) with
  |some (.lnk id)=>match lk hp m,lk hp id with
   |some (.arr sz xs),some (.nst sz' l (some (i,m',len)))=>if m'=m∧sz'=sz∧len=xs.length then some (up (rm hp m) id (.nst sz (l.set i (some xs)) none)) else none
   |_,_=>none
  |_=>none):=id rfl
theorem Qp9{m:Nat}{u hp1}:pu2 m (some (u,hp1))=(Jt hp1 m).map fun hp2=>(u,hp2):=id rfl
def nsL(vs:List (List Int)):List (Option (List D)):=vs.map fun v=>some (QR v)
def nsA(vs:List (List Int)):List D:=vs.map fun v=>.arr 1 (QR v)
def nsF(vs:List (List Int)):List D:=vs.map fun v=>.lst 1 (QR v)
theorem Qqa(vs:List (List Int))(v:List Int):nsL vs++[some (QR v)]=nsL (vs++[v]):=by simp [nsL]
theorem Qqb(vs:List (List Int)):(nsL vs).length=vs.length:=by simp [nsL]
theorem Qqc(vs:List (List Int)):(nsA vs).length=vs.length:=by simp [nsA]
theorem Qqd(vs:List (List Int)):(nsF vs).length=vs.length:=by simp [nsF]
theorem Qqe(vs:List (List Int))(i:Nat):(nsL vs)[i]?=(vs[i]?).map fun v=>some (QR v):=by simp [nsL]
theorem Qqf(vs:List (List Int))(i:Nat):(nsF vs)[i]?=(vs[i]?).map fun v=>.lst 1 (QR v):=by simp [nsF]
theorem Qqg(vs:List (List Int))(i:Nat)(v:List Int)(o:Option (List D)):((nsL vs).set i o).set i (some (QR v))=nsL (vs.set i v):=by simp [nsL,List.set_set,List.map_set]
theorem Qqh(vs:List (List Int)):Zb 1 (nsL vs)=some (nsF vs):=by
 unfold Zb nsL nsF
 induction vs with
 |nil=>rfl
 |cons v vs ih=>simp only[List.map_cons,QU,Option.map_some,ih]
theorem Qqi(vs:List (List Int)):Qat 1 (nsL vs)=some (nsA vs):=by
 unfold Qat nsL nsA
 induction vs with
 |nil=>rfl
 |cons v vs ih=>simp only[List.map_cons,QU,Option.map_some,ih]
theorem Qqj(vs:List (List Int)):(nsA vs).map (ZW 1)=nsL vs:=by simp [nsA,nsL,ZW]
theorem Qje(vs:List (List Int)):(nsA vs).all (Qa9 1)=true:=by simp [nsA,Qa9]
theorem Qqk(vs:List (List Int)):(nsA vs).all D.flatA=true:=by
 simp only[nsA,List.all_map,Qs,Function.comp,D.flatA]
 intro v _
 simp [QR,D.flatE,D.flat0]
theorem Qql{n:Nat}{sl:qSl}{hp:qHp}{x}:eff n sl hp (.len x)=(match ev sl x with
  |some (.sl _ _ len)=>some (.int .i64 len,hp)
  |some (.lst _ xs)=>some (.int .i64 xs.length,hp)
  |some (.nl _)=>some (.int .i64 0,hp)
  |_=>none):=id rfl
theorem Qqm{n:Nat}{sl:qSl}{hp:qHp}{xs}:eff n sl hp (.mn xs)=(match QU (ev sl) xs with
  |some (a::l)=>(YU Qa4 a l).map fun d=>(d,hp)
  |_=>none):=id rfl
theorem Qqn{n:Nat}{sl:qSl}{hp:qHp}{xs}:eff n sl hp (.mx xs)=(match QU (ev sl) xs with
  |some (a::l)=>(YU Qa5 a l).map fun d=>(d,hp)
  |_=>none):=id rfl
theorem Qqo{n:Nat}{sl:qSl}{hp:qHp}{x i}:eff n sl hp (.ext x i)=(match ev sl x with
  |some (.tup ds)=>match ds[i]? with|some d=>some (d,hp)|none=>none
  |_=>none):=id rfl
theorem Qqp{ds:List D}:Xv [] ds=ds:=by cases ds<;>rfl
theorem Qqq:(∀{n},XW n []=[])∧(∀{n l},XW n (.mu::l)=n::XW (n+1) l)∧(∀{n l},XW n (.rd::l)=XW (n+1) l)∧(∀{n l},XW n (.ow::l)=XW (n+1) l)∧(∀{n l},XW n (.mp::l)=n::XW (n+1) l)∧(∀{l d ds},Xv (.rd::l) (d::ds)=d::Xv l ds)∧(∀{l d ds},Xv (.mp::l) (d::ds)=Xv l ds):=⟨rfl,rfl,rfl,rfl,rfl,rfl,rfl⟩
section
variable {hp:qHp} {l:List Md} {d:D} {ds:List D}
theorem Qqr:Yr hp [] ds=some (ds,hp):=by cases ds<;>rfl
theorem Qqs:XL hp [] ds=QU (Xz hp) ds:=by cases ds<;>rfl
theorem Qqt:XL hp (.mu::l) (d::ds)=Qb4 (some d) (XL hp l ds):=by simp only[XL];cases XL hp l ds<;>rfl
theorem Qqu:XL hp (.ow::l) (d::ds)=Qb4 (some d) (XL hp l ds):=by simp only[XL];cases XL hp l ds<;>rfl
theorem Qqv:XL hp (.mp::l) (d::ds)=Qb4 (some d) (XL hp l ds):=by simp only[XL];cases XL hp l ds<;>rfl
theorem Qqw:(∀{hp l ds m},Zo hp (m::l) ds=Qjd (m::l) (Yr hp (m::l) ds))∧(∀{hp l ds},Qjd l (some (ds,hp))=Qfv hp (XL hp l ds))∧(∀{hp l d ds m},Yr hp (m::l) (d::ds)=Qjb (fun hp1=>Yr hp1 l ds) (Zr hp m d))∧(∀{hp d},Zr hp .rd d=some (d,hp))∧(∀{hp d},Zr hp .mu d=ZJ hp d)∧(∀{hp d},Zr hp .ow d=ZJ hp d)∧(∀{hp i a b},ZJ hp (.sl i a b)=XF hp (.sl i a b))∧(∀{hp l},ZJ hp (.agg l)=X2 hp (.agg l))∧(∀{hp d},Zr hp .mp d=X2 hp d)∧(∀{hp:qHp}{d:D}{f:qHp→Option (List D×qHp)},Qjb f (some (d,hp))=Qjc d (f hp))∧(∀{hp d ds},Qjc d (some (ds,hp))=some (d::ds,hp))∧(∀{hp l d ds},XL hp (.rd::l) (d::ds)=Qb4 (Xz hp d) (XL hp l ds))∧(∀{d ds},Qb4 (some d) (some ds)=some (d::ds)):=⟨rfl,rfl,rfl,rfl,rfl,rfl,rfl,rfl,rfl,rfl,rfl,rfl,rfl⟩
end
theorem Qqx{hp0:qHp}{ds:List D}{n i:Nat}{d:D}{l:qSl}{hp:qHp}:Yb hp0 ds n ((i,d)::l) hp=Qdk hp0 ds n l hp (ds[i]?) d:=by
 simp only[Yb,Qdk,Qdj,Qja];split<;>first|rfl|(simp_all;done)|(simp_all;rfl)
theorem Qqy:(∀{hp0 ds n hp},Yb hp0 ds n [] hp=some (n,hp))∧(∀{hp0 ds n i len sz xs l hp},Qdk hp0 ds n l hp (some (.sl i 0 len)) (.arr sz xs)=if xs.length=len∧JX hp0 i=some sz then Yb hp0 ds n l ((i,.arr sz xs)::hp) else none)∧(∀{hp0 ds n i cs l hp},Qdk hp0 ds n l hp (some (.pt i 0)) (.box cs)=if cs.all XU=true then Qdj hp0 ds l hp i (Xa QW n cs) else none)∧(∀{hp0 ds n i cs l hp e},Qdj hp0 ds l hp i (cs,e,n)=Yb hp0 ds n l ((i,.box cs)::(e++hp)))∧(∀{α:Type}{a:α}{l:List α},(a::l)[0]?=some a):=⟨rfl,rfl,rfl,rfl,rfl⟩
def Qjf:Option Ent→Option Nat
 |some (.arr sz _)=>some sz
 |_=>none
theorem Qqz{i:Nat}{l:List Nat}{hp:qHp}:Q9 (i::l) hp=QfC l i hp (lk hp i):=by simp only[Q9,QfC];cases lk hp i<;>rfl
theorem QqA{fz:Bool}{n:Nat}{hp0 hp:qHp}{ds:List D}{md:List Md}{r:D}{outs:qSl}:Zy fz n hp0 hp ds md r outs=
 if outs.map (·.1)=XW 0 md∧okA r=true then
  if !fz&&(r.flat&&outs.all (fun o=>o.2.flat)) then QfE n hp0 ds outs (XP n r) hp
  else if (Xv md ds).all ZK then QfE n hp0 ds outs (XP n r) (Q9 ((Xv md ds).flatMap D.ids) hp) else none
 else none:=id rfl
theorem QqB{b:Bool}:(false&&b)=false:=id (by simp)
theorem QqC{sl:qSl}{off n:Nat}{x:X}{ps:List (Nat×Nat×X)}{cs:List D}:Zc sl ((off,n,x)::ps) cs=QfF sl off n ps cs ((ev sl x).bind YR):=by simp only[Zc,QfF];cases (ev sl x).bind YR<;>rfl
theorem QqD{sl:qSl}{hp:qHp}{sz i:Nat}{x:X}{ps:List (Nat×X)}{es:List D}:Yn sl hp sz ((i,x)::ps) es=bs2 sl hp sz i ps es (ev sl x):=by
 simp only[Yn,bs2];cases ev sl x with
 |none=>rfl
 |some d=>simp only[bs3];cases pur hp d<;>rfl
theorem QqE{f:D→D→Option D}{a b:D}{l:List D}:YU f a (b::l)=QfG f l (f a b):=by simp only[YU,QfG];cases f a b<;>rfl
theorem QqF{s:St}{n m:Nat}{ag:Bool}:JY s (.c n ag m)=rv2 s ag m (lk s.sl n):=by
 simp only[JY,rv2];split
 ·rename_i h;simp only[h];rfl
 ·rename_i h;split
  ·rename_i h2;exact (h _ h2).elim
  ·rfl
theorem QqG{s:St}{rs:List RV}{outs:List Nat}:fin s rs outs=QfI s outs (QU (JY s) rs):=by simp only[fin,QfI];cases QU (JY s) rs with
 |none=>rfl
 |some ds=>simp only[];cases XO X2 s.hp (ds++(outs.filterMap fun i=>lk s.sl i))<;>rfl
theorem Xj{α:Type}(st:α→St)(Inv:α→Prop)(μ:α→Nat)(a0:α){keep:List Nat}{body:LC}(h0:norm keep s=st a0)(hi:Inv a0)
  (step:∀a,Inv a→@RUN P body ⟨LX.seq (fun s'=>∃a',norm keep s'=st a'∧Inv a'∧μ a'<μ a) q⟩ (st a)):@RUN P (.loop keep body) ⟨q⟩ s:=by
 simp only[RUN,W]
 refine⟨fun m s=>∃a,Inv a∧st a=s∧μ a=m,⟨_,a0,hi,h0.symm,rfl⟩,?_⟩
 rintro m s ⟨a,ha,rfl,rfl⟩
 refine Jb _ ?_ (step a ha)
 refine LX.seq_mono ?_ (fun _ _ h=>h)
 rintro s' ⟨a',hn,hi',hm⟩
 exact⟨_,hm,a',hi',hn.symm,rfl⟩
theorem QqH:(∀{hp i},JX hp i=Qjf (lk hp i))∧(∀{sz xs},Qjf (some (.arr sz xs))=some sz)∧(∀{hp},Q9 [] hp=hp)∧(∀{i l hp e},QfC l i hp (some e)=Q9 l (up hp i e.frozen))∧(∀{n m hp0 ds outs d e hp},QfE n hp0 ds outs (d,e,m) hp=QfD n d (Yb hp0 ds m outs (e++hp)))∧(∀{n m d hp},QfD n d (some (m,hp))=if m≤n+64 then some (d,hp) else none)∧(∀{ag off n cs},Yv ag off n cs=if off+n≤cs.length then ZH ag ((cs.drop off).take n) else none)∧(∀{cs},ZH true cs=some (.agg cs))∧(∀{c},ZH false [c]=some c)∧(∀{l off new},XQ l off new=l.take off++new++l.drop (off+new.length))∧(∀{sl cs},Zc sl [] cs=some cs)∧(∀{sl off n ps cs l},QfF sl off n ps cs (some l)=if l.length=n∧off+n≤cs.length then Zc sl ps (XQ cs off l) else none)∧(∀{sl hp sz es},Yn sl hp sz [] es=some (es,[]))∧(∀{sl hp sz i ps es d},bs2 sl hp sz i ps es (some d)=bs3 sl hp sz i ps es d.ids (pur hp d))∧(∀{sl hp sz i ps es ids e},bs3 sl hp sz i ps es ids (some e)=if Ym sz e∧i<es.length then bs4 ids (Yn sl hp sz ps (es.set i e)) else none)∧(∀{ids f l},bs4 ids (some (l,f))=some (l,ids++f))∧(∀{k a b},Yh .add k a b=some (.int k (k.wrap (a+b))))∧(∀{k a b},Yh .sub k a b=some (.int k (k.wrap (a-b))))∧(∀{k a b},Yh .mul k a b=some (.int k (k.wrap (a*b))))∧(∀{k a b},Yh .quo k a b=if b=0 then none else some (.int k (k.wrap (a.tdiv b))))∧(∀{k a b},Yh .rem k a b=if b=0 then none else some (.int k (a.tmod b)))∧(∀{k a b},Yh .and k a b=some (.int k (k.wrap (BitVec.ofInt k.bits a&&&BitVec.ofInt k.bits b).toNat)))∧(∀{k a b},Yh .eql k a b=some (.bool (decide (a=b))))∧(∀{k a b},Yh .neq k a b=some (.bool (!decide (a=b))))∧(∀{k a b},Yh .lss k a b=some (.bool (decide (a<b))))∧(∀{k a b},Yh .leq k a b=some (.bool (decide (a≤b))))∧(∀{k a b},Yh .gtr k a b=some (.bool (decide (b<a))))∧(∀{k a b},Yh .geq k a b=some (.bool (decide (b≤a))))∧(∀{f:D→D→Option D}{a:D},YU f a []=some a)∧(∀{f:D→D→Option D}{c:D}{l:List D},QfG f l (some c)=YU f c l)∧(∀{s n},JY s (.t n)=lk s.sl n)∧(∀{s ag m i},rv2 s ag m (some (.pt i 0))=rv3 ag m (lk s.hp i))∧(∀{ag m cs},rv3 ag m (some (.box cs))=Yv ag 0 m cs)∧(∀{s outs ds},QfI s outs (some ds)=QfH outs ds.length (XO X2 s.hp (ds++(outs.filterMap fun i=>lk s.sl i))))∧(∀{outs n l hp},QfH outs n (some (l,hp))=if l.length=n+outs.length then some (Qbr (l.take n),outs.zip (l.drop n)) else none)∧(∀{d},Qbr [d]=d)∧(∀{a b},Qbr [a,b]=.tup [a,b])∧(∀{a b c},Qbr [a,b,c]=.tup [a,b,c])∧(Qbr []=.tup []):=⟨rfl,rfl,rfl,rfl,rfl,rfl,rfl,rfl,rfl,rfl,rfl,rfl,rfl,rfl,rfl,rfl,rfl,rfl,rfl,rfl,rfl,rfl,rfl,rfl,rfl,rfl,rfl,rfl,rfl,rfl,rfl,rfl,rfl,rfl,rfl,rfl,rfl,rfl,rfl⟩
end
def stI(sl:qSl)(a:D)(x:X):List Nat:=match a with
 | .pt id _=>[id]
 | .pe id _ _=>id::(evL sl x).ids
 |_=>[]
theorem QqI:(∀{sl i off x},stI sl (.pt i off) x=[i])∧(∀{sl n},evL sl (.t n)=(lk sl n).getD .undef)∧(∀{sl d},evL sl (.k d)=d):=⟨rfl,rfl,rfl⟩
def Qdl(P:Program)(cs:List (Nat×Option Nat×List Nat×Bool))(n0:Nat)(l:List LI)(i n:Nat)(log:List (Nat×List Nat×List Nat))(s:St)[K:Kt St]:Prop:=WD P cs n0 l i n log s K.go
def CHK(n0:Nat)(o:Option (Option Nat×List Nat×Bool))(log:List (Nat×List Nat×List Nat))(rd mu:List Nat):Prop:=Qax n0 o log rd mu=true
def QfJ(b:Bool)(i:Nat)(rd mu:List Nat)(log:List (Nat×List Nat×List Nat)):List (Nat×List Nat×List Nat):=if b then (i,rd,mu)::log else log
theorem QqJ{P:Program}{cs:List (Nat×Option Nat×List Nat×Bool)}{n0:Nat}{log:List (Nat×List Nat×List Nat)}{i n m:Nat}{sl:qSl}{hp:qHp}{K:Kt St}:
  @Qdl P cs n0 [] i n log ⟨sl,hp,m⟩ K=K.go ⟨sl,hp,n⟩:=id rfl
theorem QqK{P:Program}{cs:List (Nat×Option Nat×List Nat×Bool)}{n0:Nat}{log:List (Nat×List Nat×List Nat)}{d:Option Nat}{op:LOp}{g:Option (Nat×Bool)}{l:List LI}{i n m:Nat}{sl:qSl}{hp:qHp}{K:Kt St}:
  @Qdl P cs n0 (⟨d,op,g⟩::l) i n log ⟨sl,hp,m⟩ K=(CHK n0 (lk cs i) log (rdI sl hp op) (muI sl hp op)∧@Qb3 P n ⟨d,op,g⟩ ⟨sl,hp,m⟩ ⟨fun s'=>@Qdl P cs n0 l (i+1) (n+64) (QfJ (lgE (lk cs i)) i (rdI sl hp op) (muI sl hp op) log) s' K⟩):=id rfl
theorem QqL{n0:Nat}{log:List (Nat×List Nat×List Nat)}{rd mu:List Nat}:CHK n0 none log rd mu=True:=by simp [CHK,Qax]
theorem QqM:(∀{n0 l b log rd mu},CHK n0 (some (none,l,b)) log rd mu=(l.all (JW log rd mu)=true))∧(∀{n0 m l b log rd mu},CHK n0 (some (some m,l,b)) log rd mu=((rd.all (Qa7 n0 m)&&l.all (JW log rd mu))=true))∧(lgE none=false)∧(∀{o l b},lgE (some (o,l,b))=b)∧(∀{n0 m i},Qa7 n0 m i=if i<n0 then true else m/2 ^ ((i-n0)/64)%2==1):=⟨rfl,rfl,rfl,rfl,rfl⟩
def QfK(rd mu:List Nat):Option (List Nat×List Nat)→Bool
 |some p=>Ja mu p.1&&Ja p.2 rd
 |none=>false
theorem QqN{log:List (Nat×List Nat×List Nat)}{rd mu:List Nat}{j:Nat}:JW log rd mu j=QfK rd mu (lk log j):=id (by unfold JW QfK;split<;>simp [*])
theorem Qjg{P:Program}{n0:Nat}:∀{l:List LI}{i n:Nat}{s:St}{K:St→Prop},WD P [] n0 l i n [] s K=Jw P l n s K
 |[],_,_,_,_=>rfl
 |x::l,i,n,s,K=>by
  simp only[WD,Jw,lk,Qax,lgE,true_and,Bool.false_eq_true,if_false]
  congr 1;funext s';exact Qjg
theorem QqO{P:Program}{q:LX→St→Prop}{ops:List LI}{keep:List Nat}{sl:qSl}{hp:qHp}{n:Nat}:
  @RUN P (.dreg [] ops keep) ⟨q⟩ ⟨sl,hp,n⟩=@OPS P ops n ⟨sl,hp,n⟩ ⟨fun s'=>@END .normal ⟨fil keep s'.sl,s'.hp,s'.nx⟩ ⟨q⟩⟩:=by simp only[RUN,W,Qjg];rfl
theorem QqP{P:Program}{q:LX→St→Prop}{c:Nat×Option Nat×List Nat×Bool}{cs:List (Nat×Option Nat×List Nat×Bool)}{ops:List LI}{keep:List Nat}{sl:qSl}{hp:qHp}{n:Nat}:
  @RUN P (.dreg (c::cs) ops keep) ⟨q⟩ ⟨sl,hp,n⟩=@Qdl P (c::cs) n ops 0 n [] ⟨sl,hp,n⟩ ⟨fun s'=>@END .normal ⟨fil keep s'.sl,s'.hp,s'.nx⟩ ⟨q⟩⟩:=by simp only[RUN,W];rfl
theorem QqQ:(∀{rd mu a b},QfK rd mu (some (a,b))=(Ja mu a&&Ja b rd))∧(∀{b},Ja [] b=true)∧(∀{x a b},Ja (x::a) b=(!(b.contains x)&&Ja a b))∧(∀{i rd mu log},QfJ true i rd mu log=(i,rd,mu)::log)∧(∀{i rd mu log},QfJ false i rd mu log=log)∧(∀{hp k m},D.rch hp (.int k m:D)=[])∧(∀{hp b},D.rch hp (.bool b:D)=[])∧(∀{z xs},D.hd (.lst z xs:D)=[])∧(∀{hp z xs},D.rch hp (.lst z xs:D)=[])∧(∀{hp cs},D.rch hp (.agg cs:D)=cs.flatMap D.ids0)∧(∀{cs},D.hd (.ref cs:D)=[])∧(∀{i lo len},D.hd (.sl i lo len:D)=[i])∧(∀{hp i lo len},D.rch hp (.sl i lo len:D)=[i])∧(∀{i off},D.hd (.pt i off:D)=[i])∧(∀{i j off},D.hd (.pe i j off:D)=[i])∧(D.hd (.undef:D)=[])∧(∀{hp},D.rch hp (.undef:D)=[])∧(∀{sl hp x},rdI sl hp (.mov x)=[])∧(∀{sl hp x},muI sl hp (.mov x)=[])∧(∀{sl hp a b c},rdI sl hp (.pick a b c)=[])∧(∀{sl hp a b c},muI sl hp (.pick a b c)=[])∧(∀{sl hp z},rdI sl hp (.alloc z)=[])∧(∀{sl hp z},muI sl hp (.alloc z)=[])∧(∀{sl hp x},rdI sl hp (.bx x)=[])∧(∀{sl hp x},muI sl hp (.bx x)=[])∧(∀{sl hp z ps},rdI sl hp (.build z ps)=[])∧(∀{sl hp z ps},muI sl hp (.build z ps)=[])∧(∀{sl hp o x y},rdI sl hp (.bin o x y)=[])∧(∀{sl hp o x y},muI sl hp (.bin o x y)=[])∧(∀{sl hp f xs},rdI sl hp (.sf f xs)=[])∧(∀{sl hp f xs},muI sl hp (.sf f xs)=[])∧(∀{sl hp x},rdI sl hp (.not x)=[])∧(∀{sl hp x},muI sl hp (.not x)=[])∧(∀{sl hp k x},rdI sl hp (.conv k x)=[])∧(∀{sl hp k x},muI sl hp (.conv k x)=[])∧(∀{sl hp b x},rdI sl hp (.bsn b x)=(evL sl x).hd)∧(∀{sl hp b x},muI sl hp (.bsn b x)=(evL sl x).hd)∧(∀{sl hp b x y},rdI sl hp (.apn b x y)=(evL sl x).hd++(evL sl y).hd)∧(∀{sl hp b x y},muI sl hp (.apn b x y)=(evL sl x).hd++(evL sl y).hd)∧(∀{sl hp x},rdI sl hp (.tk x)=(evL sl x).hd)∧(∀{sl hp x},muI sl hp (.tk x)=(evL sl x).hd)∧(∀{sl hp a x},rdI sl hp (.pu a x)=puI sl hp a x)∧(∀{sl hp a x},muI sl hp (.pu a x)=puI sl hp a x):=⟨rfl,rfl,rfl,rfl,rfl,rfl,rfl,rfl,rfl,rfl,rfl,rfl,rfl,rfl,rfl,rfl,rfl,rfl,rfl,rfl,rfl,rfl,rfl,rfl,rfl,rfl,rfl,rfl,rfl,rfl,rfl,rfl,rfl,rfl,rfl,rfl,rfl,rfl,rfl,rfl,rfl,rfl,rfl⟩
theorem QqR{sl:qSl}{hp:qHp}{a x}:puI sl hp a x=(match evL sl a with
 | .pt id _=>[id]
 | .pe id _ _=>id::(id+1)::(match lk hp (id+1) with|some (.lnk j)=>[j]|_=>[])
 |_=>[]):=id rfl
theorem QqS{n:Nat}{sl:qSl}{hp:qHp}{s x y}:eff n sl hp (.cpy s x y)=(match ev sl x,(ev sl y).bind (rdS hp s) with
  |some (.sl id lo len),some ys=>match lk hp id with
   |some (.arr sz' xs)=>if sz'=s∧lo+len≤xs.length then some (.int .i64 ((min ys.length len:Nat):Int),up hp id (.arr s (XQ xs lo (ys.take (min ys.length len))))) else none
   |_=>none
  |_,_=>none):=id rfl
theorem QqT{sl:qSl}{hp:qHp}{l}:muX sl hp [] l=l.flatMap fun x=>(evL sl x).ids:=by cases l<;>rfl
theorem QqU:(∀{sl hp a b z x},rdI sl hp (.makeSl a b z x)=[])∧(∀{sl hp a b z x},muI sl hp (.makeSl a b z x)=[])∧(∀{sl hp a x},rdI sl hp (.fad a x)=[])∧(∀{sl hp a x},muI sl hp (.fad a x)=[])∧(∀{sl hp a b x y},rdI sl hp (.iaa a b x y)=[])∧(∀{sl hp a b x y},muI sl hp (.iaa a b x y)=[])∧(∀{sl hp x},rdI sl hp (.len x)=[])∧(∀{sl hp x},muI sl hp (.len x)=[])∧(∀{sl hp l},rdI sl hp (.mn l)=[])∧(∀{sl hp l},muI sl hp (.mn l)=[])∧(∀{sl hp x i},rdI sl hp (.ext x i)=[])∧(∀{sl hp x i},muI sl hp (.ext x i)=[])∧(∀{sl hp a b x},rdI sl hp (.load a b x)=(evL sl x).hd)∧(∀{sl hp a b x},muI sl hp (.load a b x)=[])∧(∀{sl hp a x y z},rdI sl hp (.slc a x y z)=(evL sl x).hd)∧(∀{sl hp a x y z},muI sl hp (.slc a x y z)=[])∧(∀{sl hp a x y},rdI sl hp (.iad a x y)=(evL sl x).hd)∧(∀{sl hp a x y},muI sl hp (.iad a x y)=[])∧(∀{sl hp a x y},rdI sl hp (.store a x y)=stI sl (evL sl x) y)∧(∀{sl hp a x y},muI sl hp (.store a x y)=stI sl (evL sl x) y)∧(∀{sl hp a b x y},rdI sl hp (.app a b x y)=(evL sl x).hd++(evL sl y).hd)∧(∀{sl hp a b x y},muI sl hp (.app a b x y)=(evL sl x).hd)∧(∀{sl hp a b z c ps},rdI sl hp (.buildSl a b z c ps)=ps.flatMap fun p=>(evL sl p.2).ids)∧(∀{sl hp a b z c ps},muI sl hp (.buildSl a b z c ps)=ps.flatMap fun p=>(evL sl p.2).ids)∧(∀{sl hp f l md},rdI sl hp (.call f l md)=l.flatMap fun x=>(evL sl x).rch hp)∧(∀{sl hp f l md},muI sl hp (.call f l md)=muX sl hp md l)∧(∀{sl hp md x l},muX sl hp (.rd::md) (x::l)=(evL sl x).ids++muX sl hp md l)∧(∀{sl hp md x l},muX sl hp (.ow::md) (x::l)=(evL sl x).ids++muX sl hp md l)∧(∀{hp i},X2 hp (.mh i:D)=XF hp (.mh i:D))∧(∀{hp n i},XR hp n (.mh i:D)=XG hp n (.mh i:D))∧(∀{hp n i},YW hp n (.mh i:D)=XR hp n (.mh i:D))∧(∀{k es},XK (.mp k es:D)=XU (.mp k es:D))∧(∀{k es},D.flat2 (.mp k es:D)=D.flat1 (.mp k es:D))∧(∀{n k es},Xo n (.mp k es:D)=QW n (.mp k es:D))∧(∀{hp i},XF hp (.mh i:D)=(match lk hp i with|some (.mp m es)=>some (.mp m es,rm hp i)|_=>none))∧(∀{hp n i},XG hp n (.mh i:D)=(match lk n.m i with|some j=>(.mh j,n)|none=>match lk hp i with|some (.mp m es)=>(.mh n.k,⟨(i,n.k)::n.m,n.e++[(n.k,.mp m es)],n.k+1⟩)|_=>(.undef,n)))∧(∀{k es},XU (.mp k es:D)=true)∧(∀{k es},D.flat0 (.mp k es:D)=true)∧(∀{k es},D.flat1 (.mp k es:D)=D.flat0 (.mp k es:D))∧(∀{n k es},QW n (.mp k es:D)=(.mh n,[(n,.mp k es)],n+1))∧(∀{cs},JR (.agg cs)=QU asI cs)∧(∀{a b},JS [a,b]=.agg [.int .i64 a,.int .i64 b])∧(∀{n sl hp m},eff n sl hp (.mkM m)=some (.mh n,up hp n (.mp m []))):=⟨rfl,rfl,rfl,rfl,rfl,rfl,rfl,rfl,rfl,rfl,rfl,rfl,rfl,rfl,rfl,rfl,rfl,rfl,rfl,rfl,rfl,rfl,rfl,rfl,rfl,rfl,rfl,rfl,rfl,rfl,rfl,rfl,rfl,rfl,rfl,rfl,rfl,rfl,rfl,rfl,rfl,rfl,rfl⟩
theorem QqV{n:Nat}{sl:qSl}{hp:qHp}{m x k}:eff n sl hp (.lkM m x k)=(match ev sl x,(ev sl k).bind JR with
  |some (.mh id),some ks=>match lk hp id with
   |some (.mp m' es)=>if m'=m∧ks.length=m then some (.tup [.int .i64 (((Yi ks es).map (·.2)).getD 0),.bool (Yi ks es).isSome],hp) else none
   |_=>none
  |_,_=>none):=id rfl
theorem QqW{n:Nat}{sl:qSl}{hp:qHp}{m x k v}:eff n sl hp (.upM m x k v)=(match ev sl x,(ev sl k).bind JR,ev sl v with
  |some (.mh id),some ks,some (.int .i64 y)=>match lk hp id with
   |some (.mp m' es)=>if m'=m∧ks.length=m then some (.undef,up hp id (.mp m (YH es ks y))) else none
   |_=>none
  |_,_,_=>none):=id rfl
theorem QqX{n:Nat}{sl:qSl}{hp:qHp}{m x}:eff n sl hp (.rgM m x)=(match ev sl x with
  |some (.mh id)=>match lk hp id with
   |some (.mp m' es)=>if m'=m then some (.pt n 0,up (rm hp id) n (.it m es [])) else none
   |_=>none
  |_=>none):=id rfl
theorem QqY{n:Nat}{sl:qSl}{hp:qHp}{x}:eff n sl hp (.enM x)=(match ev sl x with
  |some (.pt id off)=>match lk hp id with
   |some (.it m es seen)=>match seen.getLast? with
    |some j=>match es[j]? with
     |some (k,v)=>if off=0 then some (.tup [JS k,.int .i64 v],hp) else none
     |none=>none
    |none=>none
   |_=>none
  |_=>none):=id rfl
theorem QqZ{l:List Nat}{j:Nat}:(l++[j]).getLast?=some j:=by simp
theorem Qq0{sl:qSl}{hp:qHp}{x:X}:nxO sl hp x=(match ev sl x with
 |some (.pt id off)=>match lk hp id with
  |some (.it m es seen)=>if off=0 then some (id,m,es,seen) else none
  |_=>none
 |_=>none):=id rfl
def NXT(o:Option (Nat×Nat×List (List Int×Int)×List Nat))[a:Kp][b:Kt ((Nat×Nat×List (List Int×Int)×List Nat)×Nat×List Int×Int)]:Prop:=
 kon o fun q=>((∀j,j<q.2.2.1.length→j∈q.2.2.2)→a.p)∧∀j k v,q.2.2.1[j]?=some (k,v)→j∉q.2.2.2→b.go (q,j,k,v)
theorem Qjh{q:Nat×Nat×List (List Int×Int)×List Nat}{a:Kp}{b:Kt ((Nat×Nat×List (List Int×Int)×List Nat)×Nat×List Int×Int)}(h:(∀j,j<q.2.2.1.length→j∈q.2.2.2)→a.p)
  (k:∀j k v,q.2.2.1[j]?=some (k,v)→j∉q.2.2.2→b.go (q,j,k,v)):@NXT (some q) a b:=⟨h,k⟩
section
variable {P:Program} {dst:Option Nat} {gd:Option (Nat×Bool)} {n m:Nat} {sl:qSl} {hp:qHp} {K:Kt St}
theorem Qq1{x}:@ACT P n ⟨dst,.nxM x,gd⟩ ⟨sl,hp,m⟩ K=@NXT (nxO sl hp x) ⟨K.go ⟨Q5 dst (.tup [.bool false]) sl,hp,m⟩⟩ ⟨fun r=>K.go ⟨Q5 dst (.tup [.bool true,JS r.2.2.1,.int .i64 r.2.2.2]) sl,up hp r.1.1 (.it r.1.2.1 r.1.2.2.1 (r.1.2.2.2++[r.2.1])),m⟩⟩:=by
 simp only[ACT,XX,NXT]
theorem Qq2:(∀{P dst gd n m sl hp K a},@ACT P n ⟨dst,.mkM a,gd⟩ ⟨sl,hp,m⟩ K=@KON _ (eff n sl hp (.mkM a)) ⟨fun p=>K.go ⟨Q5 dst p.1 sl,p.2,m⟩⟩)∧(∀{P dst gd n m sl hp K a x k},@ACT P n ⟨dst,.lkM a x k,gd⟩ ⟨sl,hp,m⟩ K=@KON _ (eff n sl hp (.lkM a x k)) ⟨fun p=>K.go ⟨Q5 dst p.1 sl,p.2,m⟩⟩)∧(∀{P dst gd n m sl hp K a x k v},@ACT P n ⟨dst,.upM a x k v,gd⟩ ⟨sl,hp,m⟩ K=@KON _ (eff n sl hp (.upM a x k v)) ⟨fun p=>K.go ⟨Q5 dst p.1 sl,p.2,m⟩⟩)∧(∀{P dst gd n m sl hp K a x},@ACT P n ⟨dst,.rgM a x,gd⟩ ⟨sl,hp,m⟩ K=@KON _ (eff n sl hp (.rgM a x)) ⟨fun p=>K.go ⟨Q5 dst p.1 sl,p.2,m⟩⟩)∧(∀{P dst gd n m sl hp K x},@ACT P n ⟨dst,.enM x,gd⟩ ⟨sl,hp,m⟩ K=@KON _ (eff n sl hp (.enM x)) ⟨fun p=>K.go ⟨Q5 dst p.1 sl,p.2,m⟩⟩):=⟨rfl,rfl,rfl,rfl,rfl⟩
end
end Go.Am
