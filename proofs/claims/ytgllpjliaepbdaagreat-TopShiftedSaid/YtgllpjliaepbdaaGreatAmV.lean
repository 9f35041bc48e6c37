/- Lemmas by which a statement of the machine is carried out. -/
import Derived.Test.YtgllpjliaepbdaaGreatAmPa
namespace Go.Am
open Go
class Kt (α:Type) where
 go:α→Prop
class Kp where
 p:Prop
class Kq where
 go:LX→St→Prop
def KON{α:Type}(o:Option α)[f:Kt α]:Prop:=kon o f.go
def JU(o:Option D)[a:Kp][b:Kp]:Prop:=J7 o a.p b.p
def GBR(o:Option D)[a:Kp][b:Kp][c:Kp]:Prop:=Zo o a.p b.p c.p
def NIL(o:Option (Prop×Prop))[a:Kp][b:Kp]:Prop:=kon o fun q=>(q.1→a.p)∧(q.2→b.p)
def QdG(P:Program)(f:Nat)(args:List D)[F:Kt (Bool×D×qSl)]:Prop:=Qdk P f args F.go
def ACT(P:Program)(n:Nat)(i:LI)(s:St)[K:Kt St]:Prop:=Yc P n i s K.go
def Qcp(P:Program)(n:Nat)(i:LI)(s:St)[K:Kt St]:Prop:=YP P n i s K.go
def OPS(P:Program)(l:List LI)(n:Nat)(s:St)[K:Kt St]:Prop:=Qat P l n s K.go
def RUN(P:Program)(c:LC)[Q:Kq](s:St):Prop:=W P c Q.go s
def END(e:LX)(s:St)[Q:Kq]:Prop:=Q.go e s
section
variable {P:Program} {q:LX→St→Prop} {s:St}
theorem QZ{c:LC}{rs:List RV}{outs:List Nat}{r:D}{os:qSl}(h:@RUN P c ⟨Done rs outs r os⟩ s):W P c (Done rs outs r os) s:=h
theorem ZH{c:LC}{rs:List RV}{outs:List Nat}{r:D}{os:qSl}(h:@RUN P c ⟨DoneZ rs outs r os⟩ s):W P c (DoneZ rs outs r os) s:=h
theorem QRv:@RUN P .skip ⟨q⟩ s=@END .normal s ⟨q⟩:=by simp only[RUN,W,END]
theorem QRw:@RUN P .ret ⟨q⟩ s=@END .ret s ⟨q⟩:=by simp only[RUN,W,END]
theorem QRx{i:Nat}:@RUN P (.exit i) ⟨q⟩ s=@END (.exit i) s ⟨q⟩:=by simp only[RUN,W,END]
theorem QRy{a b:LC}:@RUN P (.seq a b) ⟨q⟩ s=@RUN P a ⟨LX.seq (fun s=>@RUN P b ⟨q⟩ s) q⟩ s:=by simp only[RUN,W]
theorem QRz{i:Nat}{a:LC}:@RUN P (.block i a) ⟨q⟩ s=@RUN P a ⟨LX.blk i q⟩ s:=by simp only[RUN,W]
theorem QRA{ops:List LI}{keep:List Nat}{sl:qSl}{hp:qHp}{n:Nat}:
  @RUN P (.reg ops keep) ⟨q⟩ ⟨sl,hp,n⟩=@OPS P ops n ⟨sl,hp,n⟩ ⟨fun s'=>@END .normal ⟨fil keep s'.sl,s'.hp,s'.nx⟩ ⟨q⟩⟩:=by simp only[RUN,W];rfl
theorem QRB{c:X}{a b:LC}:@RUN P (.cond c a b) ⟨q⟩ s=@JU (ev s.sl c) ⟨@RUN P a ⟨q⟩ s⟩ ⟨@RUN P b ⟨q⟩ s⟩:=by simp only[RUN,W];rfl
theorem QRC{a b:Kp}:@JU (some (.bool true)) a b=a.p:=by simp [JU,J7]
theorem QRD{a b:Kp}:@JU (some (.bool false)) a b=b.p:=by simp [JU,J7]
theorem Qac{t:Bool}{a b:Kp}(h:t=true→a.p)(k:t=false→b.p):@JU (some (.bool t)) a b:=⟨h,k⟩
theorem Q7{p:Prop}[Decidable p]{a b:Kp}(h:p→a.p)(k:¬p→b.p):@JU (some (.bool (decide p))) a b:=⟨fun e=>h (of_decide_eq_true e),fun e=>k (of_decide_eq_false e)⟩
theorem XX{p:Prop}[Decidable p]{a b:Kp}(h:¬p→a.p)(k:p→b.p):@JU (some (.bool (!decide p))) a b:=⟨fun e=>h (by simpa using e),fun e=>k (by simpa using e)⟩
theorem Qoz{p q:Prop}{a b:Kp}(h:p→a.p)(k:q→b.p):@NIL (some (p,q)) a b:=⟨h,k⟩
theorem QT{f:Nat}{args:List D}{F:Kt (Bool×D×qSl)}{r:D}{outs:qSl}(h:FC P f args r outs)(k:F.go (false,r,outs)):@QdG P f args F:=⟨false,r,outs,h,k⟩
theorem JV{f:Nat}{args:List D}{F:Kt (Bool×D×qSl)}{r:D}{outs:qSl}(h:FC P f args r outs)(k:F.go (true,r,outs)):@QdG P f args F:=⟨true,r,outs,h,k⟩
theorem QRE:(∀{α:Type}{a:α}{f:Kt α},@KON α (some a) f=f.go a)∧(∀{α:Type}{f:Kt α},@KON α none f=False)∧(∀{n},Qbo (.nl n)=some (True,False))∧(∀{n xs},Qbo (.lst n xs)=some (xs=[],True))∧(∀{i lo len},Qbo (.sl i lo len)=some (len=0,True))∧(∀{q:LX→St→Prop}{s:St}{V:St→Prop},@END .normal s ⟨LX.seq V q⟩=V s)∧(∀{q:LX→St→Prop}{s:St}{V:St→Prop}{i:Nat},@END (.exit i) s ⟨LX.seq V q⟩=@END (.exit i) s ⟨q⟩)∧(∀{q:LX→St→Prop}{s:St}{V:St→Prop},@END .ret s ⟨LX.seq V q⟩=@END .ret s ⟨q⟩)∧(∀{q:LX→St→Prop}{s:St}{i:Nat},@END .normal s ⟨LX.blk i q⟩=@END .normal s ⟨q⟩)∧(∀{q:LX→St→Prop}{s:St}{i j:Nat},@END (.exit j) s ⟨LX.blk i q⟩=if j=i then @END .normal s ⟨q⟩ else @END (.exit j) s ⟨q⟩)∧(∀{q:LX→St→Prop}{s:St}{i:Nat},@END .ret s ⟨LX.blk i q⟩=@END .ret s ⟨q⟩)∧(∀{s rs outs r os},@END .normal s ⟨DoneF rs outs r os⟩=(fin ⟨s.sl,Xd (s.hp.map (·.1)) s.hp,s.nx⟩ rs outs=some (r,os)))∧(∀{s rs outs r os},@END .ret s ⟨DoneF rs outs r os⟩=(fin ⟨s.sl,Xd (s.hp.map (·.1)) s.hp,s.nx⟩ rs outs=some (r,os)))∧(∀{s rs outs r os},@END .normal s ⟨DoneZ rs outs r os⟩=(QaW (fin ⟨s.sl,Xd (s.hp.map (·.1)) s.hp,s.nx⟩ rs outs)=some (r,os)))∧(∀{s rs outs r os},@END .ret s ⟨DoneZ rs outs r os⟩=(QaW (fin ⟨s.sl,Xd (s.hp.map (·.1)) s.hp,s.nx⟩ rs outs)=some (r,os)))∧(∀{r os},QaW (some (r,os))=some (frz r,os))∧(∀{ds},frz (.tup ds)=.tup (ds.map Jn))∧(∀{cs},frz (.agg cs)=.agg (cs.map ZR))∧(∀{cs},Jn (.agg cs)=.agg (cs.map ZR))∧(∀{n l},frz (.arr n l)=.lst n l)∧(∀{n l},Jn (.arr n l)=.lst n l)∧(∀{n l},ZR (.arr n l)=.lst n l)∧(∀{n l},frz (.lst n l)=.lst n l)∧(∀{n l},Jn (.lst n l)=.lst n l)∧(∀{n l},ZR (.lst n l)=.lst n l)∧(∀{k x},frz (.int k x)=.int k x)∧(∀{k x},Jn (.int k x)=.int k x)∧(∀{k x},ZR (.int k x)=.int k x)∧(∀{b},frz (.bool b)=.bool b)∧(∀{b},Jn (.bool b)=.bool b)∧(∀{b},ZR (.bool b)=.bool b)∧(∀{b},frz (.str b)=.str b)∧(∀{b},Jn (.str b)=.str b)∧(∀{b},ZR (.str b)=.str b)∧(∀{s rs outs r os},@END .normal s ⟨Done rs outs r os⟩=(fin s rs outs=some (r,os)))∧(∀{s rs outs r os},@END .ret s ⟨Done rs outs r os⟩=(fin s rs outs=some (r,os)))∧(∀{t a b c},@GBR (some (.bool t)) a b c=@JU (some (.bool t)) a b)∧(∀{a b c},@GBR (some .undef) a b c=c.p)∧(∀{P d op t n sl hp m K},@Qcp P n ⟨d,op,some (t,true)⟩ ⟨sl,hp,m⟩ K=@GBR (lk sl t) ⟨@ACT P n ⟨d,op,some (t,true)⟩ ⟨sl,hp,m⟩ K⟩ ⟨K.go ⟨Xe d .undef sl,hp,m⟩⟩ ⟨K.go ⟨Xe d .undef sl,hp,m⟩⟩)∧(∀{P d op t n sl hp m K},@Qcp P n ⟨d,op,some (t,false)⟩ ⟨sl,hp,m⟩ K=@GBR (lk sl t) ⟨K.go ⟨Xe d .undef sl,hp,m⟩⟩ ⟨@ACT P n ⟨d,op,some (t,false)⟩ ⟨sl,hp,m⟩ K⟩ ⟨K.go ⟨Xe d .undef sl,hp,m⟩⟩)∧(∀{P d op n s K},@Qcp P n ⟨d,op,none⟩ s K=@ACT P n ⟨d,op,none⟩ s K)∧(∀{P n m sl hp K},@OPS P [] n ⟨sl,hp,m⟩ K=K.go ⟨sl,hp,n⟩)∧(∀{P i l n s K},@OPS P (i::l) n s K=@Qcp P n i s ⟨fun s'=>@OPS P l (n+64) s' K⟩):=⟨rfl,rfl,rfl,rfl,rfl,rfl,rfl,rfl,rfl,rfl,rfl,rfl,rfl,rfl,rfl,rfl,rfl,rfl,rfl,rfl,rfl,rfl,rfl,rfl,rfl,rfl,rfl,rfl,rfl,rfl,rfl,rfl,rfl,rfl,rfl,rfl,rfl,rfl,rfl,rfl,rfl,rfl,rfl⟩
section
variable {dst:Option Nat} {gd:Option (Nat×Bool)} {n m:Nat} {sl:qSl} {hp:qHp} {K:Kt St}
theorem QRF{g x}:@ACT P n ⟨dst,.isnil g x,gd⟩ ⟨sl,hp,m⟩ K=@NIL ((ev sl x).bind Qbo) ⟨K.go ⟨Xe dst (.bool (!g)) sl,hp,m⟩⟩ ⟨K.go ⟨Xe dst (.bool g) sl,hp,m⟩⟩:=by
 simp only[ACT,Yc,NIL]
theorem QRG{f xs md}:@ACT P n ⟨dst,.call f xs md,gd⟩ ⟨sl,hp,m⟩ K=
  @KON _ (Q1 (ev sl) xs) ⟨fun ds=>@KON _ (Z4 hp md ds) ⟨fun p=>@QdG P f p.1 ⟨fun q=>@KON _ (Qas q.1 n hp p.2 ds md q.2.1 q.2.2) ⟨fun p=>K.go ⟨Xe dst p.1 sl,p.2,m⟩⟩⟩⟩⟩:=id rfl
theorem QRH{g xs}:@ACT P n ⟨dst,.callv g xs,gd⟩ ⟨sl,hp,m⟩ K=
  @KON _ ((ev sl g).bind YH) ⟨fun c=>@KON _ (Q1 (ev sl) xs) ⟨fun ds=>@KON _ (Z4 hp [] (ds++c.2)) ⟨fun p=>@QdG P c.1 p.1 ⟨fun q=>@KON _ (Qas q.1 n hp p.2 (ds++c.2) [] q.2.1 q.2.2) ⟨fun p=>K.go ⟨Xe dst p.1 sl,p.2,m⟩⟩⟩⟩⟩⟩:=id rfl
theorem QRI:(∀{P dst gd n m sl hp K x},@ACT P n ⟨dst,.mov x,gd⟩ ⟨sl,hp,m⟩ K=@KON _ (eff n sl hp (.mov x)) ⟨fun p=>K.go ⟨Xe dst p.1 sl,p.2,m⟩⟩)∧(∀{P dst gd n m sl hp K c a b},@ACT P n ⟨dst,.pick c a b,gd⟩ ⟨sl,hp,m⟩ K=@KON _ (eff n sl hp (.pick c a b)) ⟨fun p=>K.go ⟨Xe dst p.1 sl,p.2,m⟩⟩)∧(∀{P dst gd n m sl hp K z},@ACT P n ⟨dst,.alloc z,gd⟩ ⟨sl,hp,m⟩ K=@KON _ (eff n sl hp (.alloc z)) ⟨fun p=>K.go ⟨Xe dst p.1 sl,p.2,m⟩⟩)∧(∀{P dst gd n m sl hp K x},@ACT P n ⟨dst,.bx x,gd⟩ ⟨sl,hp,m⟩ K=@KON _ (eff n sl hp (.bx x)) ⟨fun p=>K.go ⟨Xe dst p.1 sl,p.2,m⟩⟩)∧(∀{P dst gd n m sl hp K z ps},@ACT P n ⟨dst,.build z ps,gd⟩ ⟨sl,hp,m⟩ K=@KON _ (eff n sl hp (.build z ps)) ⟨fun p=>K.go ⟨Xe dst p.1 sl,p.2,m⟩⟩)∧(∀{P dst gd n m sl hp K a b z c ps},@ACT P n ⟨dst,.buildSl a b z c ps,gd⟩ ⟨sl,hp,m⟩ K=@KON _ (eff n sl hp (.buildSl a b z c ps)) ⟨fun p=>K.go ⟨Xe dst p.1 sl,p.2,m⟩⟩)∧(∀{P dst gd n m sl hp K a b x},@ACT P n ⟨dst,.load a b x,gd⟩ ⟨sl,hp,m⟩ K=@KON _ (eff n sl hp (.load a b x)) ⟨fun p=>K.go ⟨Xe dst p.1 sl,p.2,m⟩⟩)∧(∀{P dst gd n m sl hp K a x y},@ACT P n ⟨dst,.store a x y,gd⟩ ⟨sl,hp,m⟩ K=@KON _ (eff n sl hp (.store a x y)) ⟨fun p=>K.go ⟨Xe dst p.1 sl,p.2,m⟩⟩)∧(∀{P dst gd n m sl hp K op x y},@ACT P n ⟨dst,.bin op x y,gd⟩ ⟨sl,hp,m⟩ K=@KON _ (eff n sl hp (.bin op x y)) ⟨fun p=>K.go ⟨Xe dst p.1 sl,p.2,m⟩⟩)∧(∀{P dst gd n m sl hp K c b x y},@ACT P n ⟨dst,.eqA c b x y,gd⟩ ⟨sl,hp,m⟩ K=@KON _ (eff n sl hp (.eqA c b x y)) ⟨fun p=>K.go ⟨Xe dst p.1 sl,p.2,m⟩⟩)∧(∀{P dst gd n m sl hp K b x y},@ACT P n ⟨dst,.eqB b x y,gd⟩ ⟨sl,hp,m⟩ K=@KON _ (eff n sl hp (.eqB b x y)) ⟨fun p=>K.go ⟨Xe dst p.1 sl,p.2,m⟩⟩)∧(∀{P dst gd n m sl hp K x},@ACT P n ⟨dst,.not x,gd⟩ ⟨sl,hp,m⟩ K=@KON _ (eff n sl hp (.not x)) ⟨fun p=>K.go ⟨Xe dst p.1 sl,p.2,m⟩⟩)∧(∀{P dst gd n m sl hp K k x},@ACT P n ⟨dst,.conv k x,gd⟩ ⟨sl,hp,m⟩ K=@KON _ (eff n sl hp (.conv k x)) ⟨fun p=>K.go ⟨Xe dst p.1 sl,p.2,m⟩⟩)∧(∀{P dst gd n m sl hp K f l},@ACT P n ⟨dst,.mkf f l,gd⟩ ⟨sl,hp,m⟩ K=@KON _ (eff n sl hp (.mkf f l)) ⟨fun p=>K.go ⟨Xe dst p.1 sl,p.2,m⟩⟩)∧(∀{P dst gd n m sl hp K a b z x},@ACT P n ⟨dst,.makeSl a b z x,gd⟩ ⟨sl,hp,m⟩ K=@KON _ (eff n sl hp (.makeSl a b z x)) ⟨fun p=>K.go ⟨Xe dst p.1 sl,p.2,m⟩⟩)∧(∀{P dst gd n m sl hp K a x y z},@ACT P n ⟨dst,.slc a x y z,gd⟩ ⟨sl,hp,m⟩ K=@KON _ (eff n sl hp (.slc a x y z)) ⟨fun p=>K.go ⟨Xe dst p.1 sl,p.2,m⟩⟩)∧(∀{P dst gd n m sl hp K a x},@ACT P n ⟨dst,.fad a x,gd⟩ ⟨sl,hp,m⟩ K=@KON _ (eff n sl hp (.fad a x)) ⟨fun p=>K.go ⟨Xe dst p.1 sl,p.2,m⟩⟩)∧(∀{P dst gd n m sl hp K a b c x},@ACT P n ⟨dst,.fld a b c x,gd⟩ ⟨sl,hp,m⟩ K=@KON _ (eff n sl hp (.fld a b c x)) ⟨fun p=>K.go ⟨Xe dst p.1 sl,p.2,m⟩⟩)∧(∀{P dst gd n m sl hp K a x y},@ACT P n ⟨dst,.iad a x y,gd⟩ ⟨sl,hp,m⟩ K=@KON _ (eff n sl hp (.iad a x y)) ⟨fun p=>K.go ⟨Xe dst p.1 sl,p.2,m⟩⟩)∧(∀{P dst gd n m sl hp K a b x y},@ACT P n ⟨dst,.iaa a b x y,gd⟩ ⟨sl,hp,m⟩ K=@KON _ (eff n sl hp (.iaa a b x y)) ⟨fun p=>K.go ⟨Xe dst p.1 sl,p.2,m⟩⟩)∧(∀{P dst gd n m sl hp K a b c x y},@ACT P n ⟨dst,.idx a b c x y,gd⟩ ⟨sl,hp,m⟩ K=@KON _ (eff n sl hp (.idx a b c x y)) ⟨fun p=>K.go ⟨Xe dst p.1 sl,p.2,m⟩⟩)∧(∀{P dst gd n m sl hp K a b x y},@ACT P n ⟨dst,.app a b x y,gd⟩ ⟨sl,hp,m⟩ K=@KON _ (eff n sl hp (.app a b x y)) ⟨fun p=>K.go ⟨Xe dst p.1 sl,p.2,m⟩⟩)∧(∀{P dst gd n m sl hp K x},@ACT P n ⟨dst,.len x,gd⟩ ⟨sl,hp,m⟩ K=@KON _ (eff n sl hp (.len x)) ⟨fun p=>K.go ⟨Xe dst p.1 sl,p.2,m⟩⟩)∧(∀{P dst gd n m sl hp K x},@ACT P n ⟨dst,.cap x,gd⟩ ⟨sl,hp,m⟩ K=@KON _ (eff n sl hp (.cap x)) ⟨fun p=>K.go ⟨Xe dst p.1 sl,p.2,m⟩⟩)∧(∀{P dst gd n m sl hp K a x},@ACT P n ⟨dst,.clr a x,gd⟩ ⟨sl,hp,m⟩ K=@KON _ (eff n sl hp (.clr a x)) ⟨fun p=>K.go ⟨Xe dst p.1 sl,p.2,m⟩⟩)∧(∀{P dst gd n m sl hp K a b z x y},@ACT P n ⟨dst,.appz a b z x y,gd⟩ ⟨sl,hp,m⟩ K=@KON _ (eff n sl hp (.appz a b z x y)) ⟨fun p=>K.go ⟨Xe dst p.1 sl,p.2,m⟩⟩)∧(∀{P dst gd n m sl hp K},@ACT P n ⟨dst,.bad,gd⟩ ⟨sl,hp,m⟩ K=@KON _ (eff n sl hp (.bad)) ⟨fun p=>K.go ⟨Xe dst p.1 sl,p.2,m⟩⟩)∧(∀{P dst gd n m sl hp K l},@ACT P n ⟨dst,.mn l,gd⟩ ⟨sl,hp,m⟩ K=@KON _ (eff n sl hp (.mn l)) ⟨fun p=>K.go ⟨Xe dst p.1 sl,p.2,m⟩⟩)∧(∀{P dst gd n m sl hp K l},@ACT P n ⟨dst,.mx l,gd⟩ ⟨sl,hp,m⟩ K=@KON _ (eff n sl hp (.mx l)) ⟨fun p=>K.go ⟨Xe dst p.1 sl,p.2,m⟩⟩)∧(∀{P dst gd n m sl hp K a x},@ACT P n ⟨dst,.stf a x,gd⟩ ⟨sl,hp,m⟩ K=@KON _ (Qdl sl hp a x) ⟨fun p=>K.go ⟨Xe dst .undef sl,p,m⟩⟩)∧(∀{P dst gd n m sl hp K a x y},@ACT P n ⟨dst,.cpy a x y,gd⟩ ⟨sl,hp,m⟩ K=@KON _ (eff n sl hp (.cpy a x y)) ⟨fun p=>K.go ⟨Xe dst p.1 sl,p.2,m⟩⟩)∧(∀{P dst gd n m sl hp K x a},@ACT P n ⟨dst,.ext x a,gd⟩ ⟨sl,hp,m⟩ K=@KON _ (eff n sl hp (.ext x a)) ⟨fun p=>K.go ⟨Xe dst p.1 sl,p.2,m⟩⟩):=⟨rfl,rfl,rfl,rfl,rfl,rfl,rfl,rfl,rfl,rfl,rfl,rfl,rfl,rfl,rfl,rfl,rfl,rfl,rfl,rfl,rfl,rfl,rfl,rfl,rfl,rfl,rfl,rfl,rfl,rfl,rfl,rfl⟩
end
theorem QRJ:(∀{k x},XC (.int k x:D)=true)∧(∀{k x},XH (.int k x:D)=XC (.int k x:D))∧(∀{k x},okA (.int k x:D)=XH (.int k x:D))∧(∀{k x},YC (.int k x:D)=true)∧(∀{b},XC (.bool b:D)=true)∧(∀{b},XC (.str b:D)=true)∧(XC (D.nf)=true)∧(∀{b},XH (.bool b:D)=XC (.bool b:D))∧(∀{b},XH (.str b:D)=XC (.str b:D))∧(XH (D.nf)=XC (D.nf))∧(∀{b},okA (.bool b:D)=XH (.bool b:D))∧(∀{b},okA (.str b:D)=XH (.str b:D))∧(okA (D.nf)=XH (D.nf))∧(∀{b},YC (.bool b:D)=true)∧(∀{b},YC (.str b:D)=true)∧(YC (D.nf)=true)∧(∀{sz},XC (.nl sz:D)=true)∧(∀{sz},XH (.nl sz:D)=XC (.nl sz:D))∧(∀{sz},okA (.nl sz:D)=XH (.nl sz:D))∧(∀{sz},YC (.nl sz:D)=true)∧(∀{sz xs},XC (.lst sz xs:D)=true)∧(∀{sz xs},XH (.lst sz xs:D)=XC (.lst sz xs:D))∧(∀{sz xs},okA (.lst sz xs:D)=XH (.lst sz xs:D))∧(∀{sz xs},YC (.lst sz xs:D)=true)∧(∀{sz xs},XC (.arr sz xs:D)=true)∧(∀{sz xs},XH (.arr sz xs:D)=XC (.arr sz xs:D))∧(∀{sz xs},okA (.arr sz xs:D)=XH (.arr sz xs:D))∧(∀{sz xs},YC (.arr sz xs:D)=true)∧(∀{cs},XC (.agg cs:D)=false)∧(∀{cs},XH (.agg cs:D)=cs.all XC)∧(∀{cs},okA (.agg cs:D)=XH (.agg cs:D))∧(∀{cs},YC (.agg cs:D)=true)∧(∀{cs},XC (.tup cs:D)=false)∧(∀{cs},XH (.tup cs:D)=XC (.tup cs:D))∧(∀{cs},okA (.tup cs:D)=cs.all XH)∧(∀{cs},YC (.tup cs:D)=false)∧(∀{cs},XC (.ref cs:D)=true)∧(∀{cs},XH (.ref cs:D)=XC (.ref cs:D))∧(∀{cs},okA (.ref cs:D)=XH (.ref cs:D))∧(∀{cs},YC (.ref cs:D)=true)∧(∀{cs},XC (.box cs:D)=false)∧(∀{cs},XH (.box cs:D)=cs.all XC)∧(∀{cs},okA (.box cs:D)=XH (.box cs:D))∧(∀{cs},YC (.box cs:D)=true)∧(∀{f cs},XC (.clo f cs:D)=cs.all X5)∧(∀{k x},X5 (.int k x)=true)∧(∀{b},X5 (.bool b)=true)∧(∀{b},X5 (.str b)=true)∧(X5 .nf=false)∧(∀{n},X5 (.nl n)=true)∧(∀{n l},X5 (.lst n l)=true)∧(∀{l},X5 (.ref l)=true)∧(∀{f cs},XH (.clo f cs:D)=XC (.clo f cs:D))∧(∀{f cs},okA (.clo f cs:D)=XH (.clo f cs:D))∧(∀{f cs},YC (.clo f cs:D)=cs.all X5)∧(∀{i lo len},XC (.sl i lo len:D)=false)∧(∀{i lo len},XH (.sl i lo len:D)=XC (.sl i lo len:D))∧(∀{i lo len},okA (.sl i lo len:D)=XH (.sl i lo len:D))∧(∀{i lo len},YC (.sl i lo len:D)=true)∧(∀{i off},XC (.pt i off:D)=false)∧(∀{i off},XH (.pt i off:D)=XC (.pt i off:D))∧(∀{i off},okA (.pt i off:D)=XH (.pt i off:D))∧(∀{i off},YC (.pt i off:D)=false)∧(∀{i j off},XC (.pe i j off:D)=false)∧(∀{i j off},XH (.pe i j off:D)=XC (.pe i j off:D))∧(∀{i j off},okA (.pe i j off:D)=XH (.pe i j off:D))∧(∀{i j off},YC (.pe i j off:D)=false)∧(XC (.undef:D)=false)∧(XH (.undef:D)=XC (.undef:D))∧(okA (.undef:D)=XH (.undef:D))∧(YC (.undef:D)=true)∧(∀{sl d0},Y9 sl d0 none=some d0)∧(∀{sl d0 x},Y9 sl d0 (some x)=(ev sl x).bind asI):=⟨rfl,rfl,rfl,rfl,rfl,rfl,rfl,rfl,rfl,rfl,rfl,rfl,rfl,rfl,rfl,rfl,rfl,rfl,rfl,rfl,rfl,rfl,rfl,rfl,rfl,rfl,rfl,rfl,rfl,rfl,rfl,rfl,rfl,rfl,rfl,rfl,rfl,rfl,rfl,rfl,rfl,rfl,rfl,rfl,rfl,rfl,rfl,rfl,rfl,rfl,rfl,rfl,rfl,rfl,rfl,rfl,rfl,rfl,rfl,rfl,rfl,rfl,rfl,rfl,rfl,rfl,rfl,rfl,rfl,rfl,rfl,rfl,rfl⟩
def QdH(o:Option Ent):Option Nat:=match o with|some (.arr sz _)=>some sz|some (.imm sz _)=>some sz|some (.nst ..)=>some 1|_=>none
theorem QRK{n b:Nat}(h:n*b≤140737488355328)(h':n≤140737488355328):YY n b=true:=by simp [YY,QW,h,h']
theorem wrap_i64{n:Int}(h: -9223372036854775808≤n)(h':n≤9223372036854775807):IntKind.i64.wrap n=n:=by
 rw[IntKind.wrap_i64];omega
theorem QRL:(∀{hp i},entSz hp i=QdH (lk hp i))∧(∀{sz l},QdH (some (.nst sz l))=some 1)∧(∀{sz xs},QdH (some (.arr sz xs))=some sz)∧(∀{sz xs},QdH (some (.imm sz xs))=some sz):=⟨rfl,rfl,rfl,rfl⟩
def QR(l:List Int):List D:=l.map (.int .i64)
theorem Qcq(l:List Int):(QR l).length=l.length:=by simp [QR]
theorem QRM(l:List Int)(x:Int):QR l++[.int .i64 x]=QR (l++[x]):=by simp [QR]
theorem QRN(l:List Int):(QR l).all D.flatE=true:=by simp [QR,D.flatE,D.flat0]
theorem Zc:QR []=[]:=id rfl
theorem QRO(l:List Int)(i:Nat):(QR l)[i]?=(l[i]?).map (.int .i64):=by simp [QR]
theorem QRP:(∀{k x},D.cells (.int k x:D)=[(.int k x:D)])∧(∀{k x},Yb (.int k x:D)=some [(.int k x:D)])∧(∀{k x},D.flat0 (.int k x:D)=true)∧(∀{k x},D.flatE (.int k x:D)=D.flat0 (.int k x:D))∧(∀{k x},D.flat1 (.int k x:D)=D.flat0 (.int k x:D))∧(∀{k x},D.flat2 (.int k x:D)=D.flat1 (.int k x:D))∧(∀{k x},D.flat (.int k x:D)=D.flat2 (.int k x:D))∧(∀{hp k x},Xa hp (.int k x:D)=some (.int k x:D))∧(∀{hp k x},Xv hp (.int k x:D)=Xa hp (.int k x:D))∧(∀{hp k x},Xz hp (.int k x:D)=Xv hp (.int k x:D))∧(∀{hp k x},pur hp (.int k x:D)=Xa hp (.int k x:D))∧(∀{hp k x},Xl hp (.int k x:D)=some ((.int k x:D),hp))∧(∀{hp k x},Xx hp (.int k x:D)=Xl hp (.int k x:D))∧(∀{hp k x},Zn hp (.int k x:D)=Xx hp (.int k x:D))∧(∀{n k x},Q6 n (.int k x:D)=((.int k x:D),[],n))∧(∀{n k x},Xg n (.int k x:D)=Q6 n (.int k x:D))∧(∀{n k x},XI n (.int k x:D)=Xg n (.int k x:D))∧(∀{k x},D.ids (.int k x:D)=[])∧(∀{k x},D.ids0 (.int k x:D)=[])∧(∀{m hp k x},rdS hp m (.int k x:D)=none)∧(∀{m k x},XT m (.int k x:D)=decide (m=1))∧(∀{k x},YX (.int k x:D)=true)∧(∀{k x},YH (.int k x:D)=none)∧(∀{hp n k x},Xr hp n (.int k x:D)=((.int k x:D),n))∧(∀{hp n k x},XB hp n (.int k x:D)=Xr hp n (.int k x:D))∧(∀{hp n k x},Yo hp n (.int k x:D)=XB hp n (.int k x:D))∧(∀{b},D.cells (.bool b:D)=[(.bool b:D)])∧(∀{b},D.cells (.str b:D)=[(.str b:D)])∧(D.cells (D.nf)=[(D.nf)])∧(∀{b},Yb (.bool b:D)=some [(.bool b:D)])∧(∀{b},Yb (.str b:D)=some [(.str b:D)])∧(Yb (D.nf)=some [(D.nf)])∧(∀{b},D.flat0 (.bool b:D)=true)∧(∀{b},D.flat0 (.str b:D)=true)∧(D.flat0 (D.nf)=true)∧(∀{b},D.flatE (.bool b:D)=D.flat0 (.bool b:D))∧(∀{b},D.flatE (.str b:D)=D.flat0 (.str b:D))∧(D.flatE (D.nf)=D.flat0 (D.nf))∧(∀{b},D.flat1 (.bool b:D)=D.flat0 (.bool b:D))∧(∀{b},D.flat1 (.str b:D)=D.flat0 (.str b:D))∧(D.flat1 (D.nf)=D.flat0 (D.nf))∧(∀{b},D.flat2 (.bool b:D)=D.flat1 (.bool b:D))∧(∀{b},D.flat2 (.str b:D)=D.flat1 (.str b:D))∧(D.flat2 (D.nf)=D.flat1 (D.nf))∧(∀{b},D.flat (.bool b:D)=D.flat2 (.bool b:D))∧(∀{b},D.flat (.str b:D)=D.flat2 (.str b:D))∧(D.flat (D.nf)=D.flat2 (D.nf))∧(∀{hp b},Xa hp (.bool b:D)=some (.bool b:D))∧(∀{hp b},Xa hp (.str b:D)=some (.str b:D))∧(∀{hp},Xa hp (D.nf)=some (D.nf))∧(∀{hp b},Xv hp (.bool b:D)=Xa hp (.bool b:D))∧(∀{hp b},Xv hp (.str b:D)=Xa hp (.str b:D))∧(∀{hp},Xv hp (D.nf)=Xa hp (D.nf))∧(∀{hp b},Xz hp (.bool b:D)=Xv hp (.bool b:D))∧(∀{hp b},Xz hp (.str b:D)=Xv hp (.str b:D))∧(∀{hp},Xz hp (D.nf)=Xv hp (D.nf))∧(∀{hp b},pur hp (.bool b:D)=Xa hp (.bool b:D))∧(∀{hp b},pur hp (.str b:D)=Xa hp (.str b:D))∧(∀{hp},pur hp (D.nf)=Xa hp (D.nf))∧(∀{hp b},Xl hp (.bool b:D)=some ((.bool b:D),hp))∧(∀{hp b},Xl hp (.str b:D)=some ((.str b:D),hp))∧(∀{hp},Xl hp (D.nf)=some ((D.nf),hp))∧(∀{hp b},Xx hp (.bool b:D)=Xl hp (.bool b:D))∧(∀{hp b},Xx hp (.str b:D)=Xl hp (.str b:D))∧(∀{hp},Xx hp (D.nf)=Xl hp (D.nf))∧(∀{hp b},Zn hp (.bool b:D)=Xx hp (.bool b:D))∧(∀{hp b},Zn hp (.str b:D)=Xx hp (.str b:D))∧(∀{hp},Zn hp (D.nf)=Xx hp (D.nf))∧(∀{n b},Q6 n (.bool b:D)=((.bool b:D),[],n))∧(∀{n b},Q6 n (.str b:D)=((.str b:D),[],n))∧(∀{n},Q6 n (D.nf)=((D.nf),[],n))∧(∀{n b},Xg n (.bool b:D)=Q6 n (.bool b:D))∧(∀{n b},Xg n (.str b:D)=Q6 n (.str b:D))∧(∀{n},Xg n (D.nf)=Q6 n (D.nf))∧(∀{n b},XI n (.bool b:D)=Xg n (.bool b:D))∧(∀{n b},XI n (.str b:D)=Xg n (.str b:D))∧(∀{n},XI n (D.nf)=Xg n (D.nf))∧(∀{b},D.ids (.bool b:D)=[])∧(∀{b},D.ids (.str b:D)=[])∧(D.ids (D.nf)=[])∧(∀{b},D.ids0 (.bool b:D)=[])∧(∀{b},D.ids0 (.str b:D)=[])∧(D.ids0 (D.nf)=[])∧(∀{m hp b},rdS hp m (.bool b:D)=none)∧(∀{m hp b},rdS hp m (.str b:D)=none)∧(∀{m hp},rdS hp m (D.nf)=none)∧(∀{m b},XT m (.bool b:D)=decide (m=1))∧(∀{m b},XT m (.str b:D)=decide (m=1))∧(∀{m},XT m (D.nf)=false)∧(∀{b},YX (.bool b:D)=true)∧(∀{b},YX (.str b:D)=true)∧(YX (D.nf)=false)∧(∀{b},YH (.bool b:D)=none)∧(∀{b},YH (.str b:D)=none)∧(YH (D.nf)=none)∧(∀{hp n b},Xr hp n (.bool b:D)=((.bool b:D),n))∧(∀{hp n b},Xr hp n (.str b:D)=((.str b:D),n))∧(∀{hp n},Xr hp n (D.nf)=((D.nf),n))∧(∀{hp n b},XB hp n (.bool b:D)=Xr hp n (.bool b:D))∧(∀{hp n b},XB hp n (.str b:D)=Xr hp n (.str b:D))∧(∀{hp n},XB hp n (D.nf)=Xr hp n (D.nf))∧(∀{hp n b},Yo hp n (.bool b:D)=XB hp n (.bool b:D))∧(∀{hp n b},Yo hp n (.str b:D)=XB hp n (.str b:D))∧(∀{hp n},Yo hp n (D.nf)=XB hp n (D.nf))∧(∀{sz},D.cells (.nl sz:D)=[(.nl sz:D)])∧(∀{sz},Yb (.nl sz:D)=some [(.nl sz:D)])∧(∀{sz},D.flat0 (.nl sz:D)=false)∧(∀{sz},D.flatE (.nl sz:D)=D.flat0 (.nl sz:D))∧(∀{sz},D.flat1 (.nl sz:D)=D.flat0 (.nl sz:D))∧(∀{sz},D.flat2 (.nl sz:D)=D.flat1 (.nl sz:D))∧(∀{sz},D.flat (.nl sz:D)=D.flat2 (.nl sz:D))∧(∀{hp sz},Xa hp (.nl sz:D)=if sz=0 then some (.nl 0) else some (.lst sz []))∧(∀{hp sz},Xv hp (.nl sz:D)=Xa hp (.nl sz:D))∧(∀{hp sz},Xz hp (.nl sz:D)=Xv hp (.nl sz:D))∧(∀{hp sz},pur hp (.nl sz:D)=Xa hp (.nl sz:D))∧(∀{hp sz},Xl hp (.nl sz:D)=some (.arr sz [],hp))∧(∀{hp sz},Xx hp (.nl sz:D)=Xl hp (.nl sz:D))∧(∀{hp sz},Zn hp (.nl sz:D)=Xx hp (.nl sz:D))∧(∀{n sz},Q6 n (.nl sz:D)=((.nl sz:D),[],n))∧(∀{n sz},Xg n (.nl sz:D)=Q6 n (.nl sz:D))∧(∀{n sz},XI n (.nl sz:D)=Xg n (.nl sz:D))∧(∀{sz},D.ids (.nl sz:D)=[])∧(∀{sz},D.ids0 (.nl sz:D)=[])∧(∀{m hp sz},rdS hp m (.nl sz:D)=some [])∧(∀{m sz},XT m (.nl sz:D)=false)∧(∀{sz},YX (.nl sz:D)=false)∧(∀{sz},YH (.nl sz:D)=none)∧(∀{hp n sz},Xr hp n (.nl sz:D)=(.sl n.k 0 0,⟨n.m,n.e++[(n.k,.arr sz [])],n.k+1⟩))∧(∀{hp n sz},XB hp n (.nl sz:D)=Xr hp n (.nl sz:D))∧(∀{hp n sz},Yo hp n (.nl sz:D)=XB hp n (.nl sz:D))∧(∀{sz xs},D.cells (.lst sz xs:D)=[(.lst sz xs:D)])∧(∀{sz xs},Yb (.lst sz xs:D)=some [(.lst sz xs:D)])∧(∀{sz xs},D.flat0 (.lst sz xs:D)=false)∧(∀{sz xs},D.flatE (.lst sz xs:D)=D.flat0 (.lst sz xs:D))∧(∀{sz xs},D.flat1 (.lst sz xs:D)=D.flat0 (.lst sz xs:D))∧(∀{sz xs},D.flat2 (.lst sz xs:D)=D.flat1 (.lst sz xs:D))∧(∀{sz xs},D.flat (.lst sz xs:D)=D.flat2 (.lst sz xs:D))∧(∀{hp sz xs},Xa hp (.lst sz xs:D)=some (.lst sz xs:D))∧(∀{hp sz xs},Xv hp (.lst sz xs:D)=Xa hp (.lst sz xs:D))∧(∀{hp sz xs},Xz hp (.lst sz xs:D)=Xv hp (.lst sz xs:D))∧(∀{hp sz xs},pur hp (.lst sz xs:D)=Xa hp (.lst sz xs:D))∧(∀{hp sz xs},Xl hp (.lst sz xs:D)=some ((.lst sz xs:D),hp))∧(∀{hp sz xs},Xx hp (.lst sz xs:D)=Xl hp (.lst sz xs:D))∧(∀{hp sz xs},Zn hp (.lst sz xs:D)=Xx hp (.lst sz xs:D))∧(∀{n sz xs},Q6 n (.lst sz xs:D)=((.lst sz xs:D),[],n))∧(∀{n sz xs},Xg n (.lst sz xs:D)=Q6 n (.lst sz xs:D))∧(∀{n sz xs},XI n (.lst sz xs:D)=Xg n (.lst sz xs:D))∧(∀{sz xs},D.ids (.lst sz xs:D)=[])∧(∀{sz xs},D.ids0 (.lst sz xs:D)=[])∧(∀{m hp sz xs},rdS hp m (.lst sz xs:D)=if sz=m then some xs else none)∧(∀{m sz xs},XT m (.lst sz xs:D)=decide (m=1))∧(∀{sz xs},YX (.lst sz xs:D)=true)∧(∀{sz xs},YH (.lst sz xs:D)=none)∧(∀{hp n sz xs},Xr hp n (.lst sz xs:D)=((.lst sz xs:D),n))∧(∀{hp n sz xs},XB hp n (.lst sz xs:D)=Xr hp n (.lst sz xs:D))∧(∀{hp n sz xs},Yo hp n (.lst sz xs:D)=XB hp n (.lst sz xs:D))∧(∀{sz xs},D.cells (.arr sz xs:D)=[(.arr sz xs:D)])∧(∀{sz xs},Yb (.arr sz xs:D)=none)∧(∀{sz xs},D.flat0 (.arr sz xs:D)=false)∧(∀{sz xs},D.flatE (.arr sz xs:D)=D.flat0 (.arr sz xs:D))∧(∀{sz xs},D.flat1 (.arr sz xs:D)=xs.all D.flatE)∧(∀{sz xs},D.flat2 (.arr sz xs:D)=D.flat1 (.arr sz xs:D))∧(∀{sz xs},D.flat (.arr sz xs:D)=D.flat2 (.arr sz xs:D))∧(∀{hp sz xs},Xa hp (.arr sz xs:D)=none)∧(∀{hp sz xs},Xv hp (.arr sz xs:D)=Xa hp (.arr sz xs:D))∧(∀{hp sz xs},Xz hp (.arr sz xs:D)=Xv hp (.arr sz xs:D))∧(∀{hp sz xs},pur hp (.arr sz xs:D)=Xa hp (.arr sz xs:D))∧(∀{hp sz xs},Xl hp (.arr sz xs:D)=none)∧(∀{hp sz xs},Xx hp (.arr sz xs:D)=Xl hp (.arr sz xs:D))∧(∀{hp sz xs},Zn hp (.arr sz xs:D)=Xx hp (.arr sz xs:D))∧(∀{n sz xs},Q6 n (.arr sz xs:D)=(.sl n 0 xs.length,[(n,.arr sz xs)],n+1))∧(∀{n sz xs},Xg n (.arr sz xs:D)=Q6 n (.arr sz xs:D))∧(∀{n sz xs},XI n (.arr sz xs:D)=Xg n (.arr sz xs:D))∧(∀{sz xs},D.ids (.arr sz xs:D)=[])∧(∀{sz xs},D.ids0 (.arr sz xs:D)=[])∧(∀{m hp sz xs},rdS hp m (.arr sz xs:D)=none)∧(∀{m sz xs},XT m (.arr sz xs:D)=false)∧(∀{sz xs},YX (.arr sz xs:D)=false)∧(∀{sz xs},YH (.arr sz xs:D)=none)∧(∀{hp n sz xs},Xr hp n (.arr sz xs:D)=(.undef,n))∧(∀{hp n sz xs},XB hp n (.arr sz xs:D)=Xr hp n (.arr sz xs:D))∧(∀{hp n sz xs},Yo hp n (.arr sz xs:D)=XB hp n (.arr sz xs:D)):=⟨rfl,rfl,rfl,rfl,rfl,rfl,rfl,rfl,rfl,rfl,rfl,rfl,rfl,rfl,rfl,rfl,rfl,rfl,rfl,rfl,rfl,rfl,rfl,rfl,rfl,rfl,rfl,rfl,rfl,rfl,rfl,rfl,rfl,rfl,rfl,rfl,rfl,rfl,rfl,rfl,rfl,rfl,rfl,rfl,rfl,rfl,rfl,rfl,rfl,rfl,rfl,rfl,rfl,rfl,rfl,rfl,rfl,rfl,rfl,rfl,rfl,rfl,rfl,rfl,rfl,rfl,rfl,rfl,rfl,rfl,rfl,rfl,rfl,rfl,rfl,rfl,rfl,rfl,rfl,rfl,rfl,rfl,rfl,rfl,rfl,rfl,rfl,rfl,rfl,rfl,rfl,rfl,rfl,rfl,rfl,rfl,rfl,rfl,rfl,rfl,rfl,rfl,rfl,rfl,rfl,rfl,rfl,rfl,rfl,rfl,rfl,rfl,rfl,rfl,rfl,rfl,rfl,rfl,rfl,rfl,rfl,rfl,rfl,rfl,rfl,rfl,rfl,rfl,rfl,rfl,rfl,rfl,rfl,rfl,rfl,rfl,rfl,rfl,rfl,rfl,rfl,rfl,rfl,rfl,rfl,rfl,rfl,rfl,rfl,rfl,rfl,rfl,rfl,rfl,rfl,rfl,rfl,rfl,rfl,rfl,rfl,rfl,rfl,rfl,rfl,rfl,rfl,rfl,rfl,rfl,rfl,rfl,rfl,rfl,rfl,rfl,rfl,rfl,rfl,rfl,rfl,rfl⟩
theorem QoA{cs:List D}:D.cells (.agg cs:D)=cs:=id rfl
theorem QRQ:(∀{cs},Yb (.agg cs:D)=some cs)∧(∀{cs},D.flat0 (.agg cs:D)=false)∧(∀{cs},D.flatE (.agg cs:D)=cs.all D.flat0)∧(∀{cs},D.flat1 (.agg cs:D)=D.flat0 (.agg cs:D))∧(∀{cs},D.flat2 (.agg cs:D)=cs.all D.flat1)∧(∀{cs},D.flat (.agg cs:D)=D.flat2 (.agg cs:D))∧(∀{hp cs},Xa hp (.agg cs:D)=none)∧(∀{hp cs},Xv hp (.agg cs:D)=(Q1 (Xa hp) cs).map .agg)∧(∀{hp cs},Xz hp (.agg cs:D)=Xv hp (.agg cs:D))∧(∀{hp cs},pur hp (.agg cs:D)=(Q1 (Xa hp) cs).map .agg)∧(∀{hp cs},Xl hp (.agg cs:D)=none)∧(∀{hp cs},Xx hp (.agg cs:D)=(XS Xl hp cs).map fun (l,hp)=>(.agg l,hp))∧(∀{hp cs},Zn hp (.agg cs:D)=Xx hp (.agg cs:D))∧(∀{n cs},Q6 n (.agg cs:D)=((.agg cs:D),[],n))∧(∀{n cs},Xg n (.agg cs:D)=(.agg (Xj Q6 n cs).1,(Xj Q6 n cs).2))∧(∀{n cs},XI n (.agg cs:D)=Xg n (.agg cs:D))∧(∀{cs},D.ids (.agg cs:D)=cs.flatMap D.ids0)∧(∀{cs},D.ids0 (.agg cs:D)=[])∧(∀{m hp cs},rdS hp m (.agg cs:D)=none)∧(∀{m cs},XT m (.agg cs:D)=(decide (cs.length=m)&&cs.all YX))∧(∀{cs},YX (.agg cs:D)=false)∧(∀{cs},YH (.agg cs:D)=none)∧(∀{hp n cs},Xr hp n (.agg cs:D)=(.undef,n))∧(∀{hp n cs},XB hp n (.agg cs:D)=(.agg (X1 (Xr hp) n cs).1,(X1 (Xr hp) n cs).2))∧(∀{hp n cs},Yo hp n (.agg cs:D)=XB hp n (.agg cs:D))∧(∀{cs},D.cells (.tup cs:D)=[(.tup cs:D)])∧(∀{cs},Yb (.tup cs:D)=none)∧(∀{cs},D.flat0 (.tup cs:D)=false)∧(∀{cs},D.flatE (.tup cs:D)=D.flat0 (.tup cs:D))∧(∀{cs},D.flat1 (.tup cs:D)=D.flat0 (.tup cs:D))∧(∀{cs},D.flat2 (.tup cs:D)=D.flat1 (.tup cs:D))∧(∀{cs},D.flat (.tup cs:D)=cs.all D.flat2)∧(∀{hp cs},Xa hp (.tup cs:D)=none)∧(∀{hp cs},Xv hp (.tup cs:D)=Xa hp (.tup cs:D))∧(∀{hp cs},Xz hp (.tup cs:D)=Xv hp (.tup cs:D))∧(∀{hp cs},pur hp (.tup cs:D)=Xa hp (.tup cs:D))∧(∀{hp cs},Xl hp (.tup cs:D)=none)∧(∀{hp cs},Xx hp (.tup cs:D)=Xl hp (.tup cs:D))∧(∀{hp cs},Zn hp (.tup cs:D)=(XS Xx hp cs).map fun (l,hp)=>(.tup l,hp))∧(∀{n cs},Q6 n (.tup cs:D)=((.tup cs:D),[],n))∧(∀{n cs},Xg n (.tup cs:D)=Q6 n (.tup cs:D))∧(∀{n cs},XI n (.tup cs:D)=(.tup (Xj Xg n cs).1,(Xj Xg n cs).2))∧(∀{cs},D.ids (.tup cs:D)=[])∧(∀{cs},D.ids0 (.tup cs:D)=[])∧(∀{m hp cs},rdS hp m (.tup cs:D)=none)∧(∀{m cs},XT m (.tup cs:D)=false)∧(∀{cs},YX (.tup cs:D)=false)∧(∀{cs},YH (.tup cs:D)=none)∧(∀{hp n cs},Xr hp n (.tup cs:D)=(.undef,n))∧(∀{hp n cs},XB hp n (.tup cs:D)=Xr hp n (.tup cs:D))∧(∀{hp n cs},Yo hp n (.tup cs:D)=(.tup (X1 (XB hp) n cs).1,(X1 (XB hp) n cs).2))∧(∀{cs},D.cells (.ref cs:D)=[(.ref cs:D)])∧(∀{cs},Yb (.ref cs:D)=some [(.ref cs:D)])∧(∀{cs},D.flat0 (.ref cs:D)=false)∧(∀{cs},D.flatE (.ref cs:D)=D.flat0 (.ref cs:D))∧(∀{cs},D.flat1 (.ref cs:D)=D.flat0 (.ref cs:D))∧(∀{cs},D.flat2 (.ref cs:D)=D.flat1 (.ref cs:D))∧(∀{cs},D.flat (.ref cs:D)=D.flat2 (.ref cs:D))∧(∀{hp cs},Xa hp (.ref cs:D)=none)∧(∀{hp cs},Xv hp (.ref cs:D)=some (.ref cs:D))∧(∀{hp cs},Xz hp (.ref cs:D)=Xv hp (.ref cs:D))∧(∀{hp cs},pur hp (.ref cs:D)=Xa hp (.ref cs:D))∧(∀{hp cs},Xl hp (.ref cs:D)=none)∧(∀{hp cs},Xx hp (.ref cs:D)=Xl hp (.ref cs:D))∧(∀{hp cs},Zn hp (.ref cs:D)=Xx hp (.ref cs:D))∧(∀{n cs},Q6 n (.ref cs:D)=((.ref cs:D),[],n))∧(∀{n cs},Xg n (.ref cs:D)=Q6 n (.ref cs:D))∧(∀{n cs},XI n (.ref cs:D)=Xg n (.ref cs:D))∧(∀{cs},D.ids (.ref cs:D)=[])∧(∀{cs},D.ids0 (.ref cs:D)=[])∧(∀{m hp cs},rdS hp m (.ref cs:D)=none)∧(∀{m cs},XT m (.ref cs:D)=false)∧(∀{cs},YX (.ref cs:D)=false)∧(∀{cs},YH (.ref cs:D)=none)∧(∀{hp n cs},Xr hp n (.ref cs:D)=((.ref cs:D),n))∧(∀{hp n cs},XB hp n (.ref cs:D)=Xr hp n (.ref cs:D))∧(∀{hp n cs},Yo hp n (.ref cs:D)=XB hp n (.ref cs:D))∧(∀{cs},D.cells (.box cs:D)=[(.box cs:D)])∧(∀{cs},Yb (.box cs:D)=none)∧(∀{cs},D.flat0 (.box cs:D)=false)∧(∀{cs},D.flatE (.box cs:D)=D.flat0 (.box cs:D))∧(∀{cs},D.flat1 (.box cs:D)=D.flat0 (.box cs:D))∧(∀{cs},D.flat2 (.box cs:D)=cs.all D.flat1)∧(∀{cs},D.flat (.box cs:D)=D.flat2 (.box cs:D))∧(∀{hp cs},Xa hp (.box cs:D)=none)∧(∀{hp cs},Xv hp (.box cs:D)=Xa hp (.box cs:D))∧(∀{hp cs},Xz hp (.box cs:D)=Xv hp (.box cs:D))∧(∀{hp cs},pur hp (.box cs:D)=Xa hp (.box cs:D))∧(∀{hp cs},Xl hp (.box cs:D)=none)∧(∀{hp cs},Xx hp (.box cs:D)=Xl hp (.box cs:D))∧(∀{hp cs},Zn hp (.box cs:D)=Xx hp (.box cs:D))∧(∀{n cs},Q6 n (.box cs:D)=((.box cs:D),[],n))∧(∀{n cs},Xg n (.box cs:D)=(.pt n 0,(n,.box (Xj Q6 (n+1) cs).1)::(Xj Q6 (n+1) cs).2.1,(Xj Q6 (n+1) cs).2.2))∧(∀{n cs},XI n (.box cs:D)=Xg n (.box cs:D))∧(∀{cs},D.ids (.box cs:D)=[])∧(∀{cs},D.ids0 (.box cs:D)=[])∧(∀{m hp cs},rdS hp m (.box cs:D)=none)∧(∀{m cs},XT m (.box cs:D)=false)∧(∀{cs},YX (.box cs:D)=false)∧(∀{cs},YH (.box cs:D)=none)∧(∀{hp n cs},Xr hp n (.box cs:D)=(.undef,n))∧(∀{hp n cs},XB hp n (.box cs:D)=Xr hp n (.box cs:D))∧(∀{hp n cs},Yo hp n (.box cs:D)=XB hp n (.box cs:D))∧(∀{f cs},D.cells (.clo f cs:D)=[(.clo f cs:D)])∧(∀{f cs},Yb (.clo f cs:D)=some [(.clo f cs:D)])∧(∀{f cs},D.flat0 (.clo f cs:D)=false)∧(∀{f cs},D.flatE (.clo f cs:D)=D.flat0 (.clo f cs:D))∧(∀{f cs},D.flat1 (.clo f cs:D)=D.flat0 (.clo f cs:D))∧(∀{f cs},D.flat2 (.clo f cs:D)=D.flat1 (.clo f cs:D))∧(∀{f cs},D.flat (.clo f cs:D)=D.flat2 (.clo f cs:D))∧(∀{hp f cs},Xa hp (.clo f cs:D)=none)∧(∀{hp f cs},Xv hp (.clo f cs:D)=Xa hp (.clo f cs:D))∧(∀{hp f cs},Xz hp (.clo f cs:D)=(Q1 (Xv hp) cs).map (.clo f))∧(∀{hp f cs},pur hp (.clo f cs:D)=Xa hp (.clo f cs:D))∧(∀{hp f cs},Xl hp (.clo f cs:D)=if cs.all X5=true then some (.clo f cs,hp) else none)∧(∀{hp f cs},Xx hp (.clo f cs:D)=(XS JB hp cs).map fun (l,hp)=>(.clb f l,hp))∧(∀{hp i off},JQ hp (.pt i off:D)=(match lk hp i with|some (.box cs)=>if off=0∧cs.all X5=true then some (.ref cs,rm hp i) else none|_=>none))∧(∀{hp cs},JQ hp (.ref cs:D)=some (.ref cs,hp))∧(∀{hp k x},JQ hp (.int k x:D)=some (.int k x,hp))∧(∀{hp b},JQ hp (.bool b:D)=some (.bool b,hp))∧(∀{hp sz xs},JQ hp (.lst sz xs:D)=some (.lst sz xs,hp)):=⟨rfl,rfl,rfl,rfl,rfl,rfl,rfl,rfl,rfl,rfl,rfl,rfl,rfl,rfl,rfl,rfl,rfl,rfl,rfl,rfl,rfl,rfl,rfl,rfl,rfl,rfl,rfl,rfl,rfl,rfl,rfl,rfl,rfl,rfl,rfl,rfl,rfl,rfl,rfl,rfl,rfl,rfl,rfl,rfl,rfl,rfl,rfl,rfl,rfl,rfl,rfl,rfl,rfl,rfl,rfl,rfl,rfl,rfl,rfl,rfl,rfl,rfl,rfl,rfl,rfl,rfl,rfl,rfl,rfl,rfl,rfl,rfl,rfl,rfl,rfl,rfl,rfl,rfl,rfl,rfl,rfl,rfl,rfl,rfl,rfl,rfl,rfl,rfl,rfl,rfl,rfl,rfl,rfl,rfl,rfl,rfl,rfl,rfl,rfl,rfl,rfl,rfl,rfl,rfl,rfl,rfl,rfl,rfl,rfl,rfl,rfl,rfl,rfl,rfl,rfl,rfl,rfl,rfl,rfl,rfl,rfl⟩
theorem QRR{sl:qSl}{hp:qHp}{a x}:Qdl sl hp a x=(match ev sl a,ev sl x with
 |some (.pt id off),some (.clo f cs)=>match XS JQ hp cs with
  |some (es,hp1)=>match lk hp1 id with
   |some (.box l)=>if off+1≤l.length then some (up hp1 id (.box (XY l off [.clo f es]))) else none
   |_=>none
  |none=>none
 |_,_=>none):=id rfl
theorem QRS:(∀{hp i off},JB hp (.pt i off:D)=(match lk hp i with|some (.box cs)=>if off=0 then (XS ZP (rm hp i) cs).map fun (l,hp)=>(.box l,hp) else none|_=>none))∧(∀{hp sz},ZP hp (.nl sz:D)=some (.lst sz [],hp))∧(∀{hp k x},ZP hp (.int k x:D)=Xl hp (.int k x:D))∧(∀{hp b},ZP hp (.bool b:D)=Xl hp (.bool b:D))∧(∀{hp b},ZP hp (.str b:D)=Xl hp (.str b:D))∧(∀{hp},ZP hp (D.nf)=Xl hp (D.nf))∧(∀{hp sz xs},ZP hp (.lst sz xs:D)=Xl hp (.lst sz xs:D))∧(∀{hp i lo len},ZP hp (.sl i lo len:D)=Xl hp (.sl i lo len:D))∧(∀{n f cs},Xg n (.clb f cs:D)=(.clo f (Xj Yy n cs).1,(Xj Yy n cs).2))∧(∀{n cs},Yy n (.box cs:D)=(.pt n 0,(n,.box (Xj Q6 (n+1) cs).1)::(Xj Q6 (n+1) cs).2.1,(Xj Q6 (n+1) cs).2.2))∧(∀{f cs},XH (.clb f cs:D)=cs.all okB)∧(∀{cs},okB (.box cs:D)=cs.all XC)∧(∀{f cs},D.flat0 (.clb f cs:D)=false)∧(∀{f cs},D.flat1 (.clb f cs:D)=D.flat0 (.clb f cs:D))∧(∀{f cs},D.flat2 (.clb f cs:D)=D.flat1 (.clb f cs:D))∧(∀{f cs},D.flat (.clb f cs:D)=D.flat2 (.clb f cs:D))∧(∀{hp f cs},Zn hp (.clo f cs:D)=Xx hp (.clo f cs:D))∧(∀{n f cs},Q6 n (.clo f cs:D)=((.clo f cs:D),[],n))∧(∀{n f cs},Xg n (.clo f cs:D)=Q6 n (.clo f cs:D))∧(∀{n f cs},XI n (.clo f cs:D)=Xg n (.clo f cs:D))∧(∀{f cs},D.ids (.clo f cs:D)=[])∧(∀{f cs},D.ids0 (.clo f cs:D)=[])∧(∀{m hp f cs},rdS hp m (.clo f cs:D)=none)∧(∀{m f cs},XT m (.clo f cs:D)=false)∧(∀{f cs},YX (.clo f cs:D)=false)∧(∀{f cs},YH (.clo f cs:D)=some (f,cs))∧(∀{hp n f cs},Xr hp n (.clo f cs:D)=if cs.all X5=true then (.clo f cs,n) else (.undef,n))∧(∀{hp n f cs},XB hp n (.clo f cs:D)=Xr hp n (.clo f cs:D))∧(∀{hp n f cs},Yo hp n (.clo f cs:D)=(.clo f (X1 (XB hp) n cs).1,(X1 (XB hp) n cs).2))∧(∀{i lo len},D.cells (.sl i lo len:D)=[(.sl i lo len:D)])∧(∀{i lo len},Yb (.sl i lo len:D)=some [(.sl i lo len:D)])∧(∀{i lo len},D.flat0 (.sl i lo len:D)=false)∧(∀{i lo len},D.flatE (.sl i lo len:D)=D.flat0 (.sl i lo len:D))∧(∀{i lo len},D.flat1 (.sl i lo len:D)=D.flat0 (.sl i lo len:D))∧(∀{i lo len},D.flat2 (.sl i lo len:D)=D.flat1 (.sl i lo len:D))∧(∀{i lo len},D.flat (.sl i lo len:D)=D.flat2 (.sl i lo len:D))∧(∀{hp i lo len},Xa hp (.sl i lo len:D)=(match lk hp i with|some (.arr sz xs)=>if lo=0∧len=xs.length then some (.lst sz xs) else if lo+len≤xs.length then some (.lst sz ((xs.drop lo).take len)) else none|some (.imm sz xs)=>if lo=0∧len=xs.length then some (.lst sz xs) else if lo+len≤xs.length then some (.lst sz ((xs.drop lo).take len)) else none|_=>none))∧(∀{hp i lo len},Xv hp (.sl i lo len:D)=Xa hp (.sl i lo len:D))∧(∀{hp i lo len},Xz hp (.sl i lo len:D)=Xv hp (.sl i lo len:D))∧(∀{hp i lo len},pur hp (.sl i lo len:D)=Xa hp (.sl i lo len:D))∧(∀{hp i lo len},Xl hp (.sl i lo len:D)=(match lk hp i with|some (.arr sz xs)=>if lo=0 then (if len=xs.length then some (.arr sz xs,rm hp i) else if len≤xs.length then some (.arr sz (xs.take len),rm hp i) else none) else none|some (.imm sz xs)=>if lo=0∧len=xs.length then some (.lst sz xs,hp) else if lo+len≤xs.length then some (.lst sz ((xs.drop lo).take len),hp) else none|_=>none))∧(∀{hp i lo len},Xx hp (.sl i lo len:D)=Xl hp (.sl i lo len:D))∧(∀{hp i lo len},Zn hp (.sl i lo len:D)=Xx hp (.sl i lo len:D))∧(∀{n i lo len},Q6 n (.sl i lo len:D)=((.sl i lo len:D),[],n))∧(∀{n i lo len},Xg n (.sl i lo len:D)=Q6 n (.sl i lo len:D))∧(∀{n i lo len},XI n (.sl i lo len:D)=Xg n (.sl i lo len:D))∧(∀{i lo len},D.ids (.sl i lo len:D)=[i])∧(∀{i lo len},D.ids0 (.sl i lo len:D)=[i])∧(∀{m hp i lo len},rdS hp m (.sl i lo len:D)=(match lk hp i with|some (.arr sz' xs)=>if sz'=m then (if lo=0∧len=xs.length then some xs else if lo+len≤xs.length then some ((xs.drop lo).take len) else none) else none|some (.imm sz' xs)=>if sz'=m then (if lo=0∧len=xs.length then some xs else if lo+len≤xs.length then some ((xs.drop lo).take len) else none) else none|_=>none))∧(∀{m i lo len},XT m (.sl i lo len:D)=false)∧(∀{i lo len},YX (.sl i lo len:D)=false)∧(∀{i lo len},YH (.sl i lo len:D)=none)∧(∀{hp n i lo len},Xr hp n (.sl i lo len:D)=(match lk n.m i with|some j=>(.sl j lo len,n)|none=>match lk hp i with|some (.box _)=>(.undef,n)|some e=>(.sl n.k lo len,⟨(i,n.k)::n.m,n.e++[(n.k,e)],n.k+1⟩)|none=>(.undef,n)))∧(∀{hp n i lo len},XB hp n (.sl i lo len:D)=Xr hp n (.sl i lo len:D))∧(∀{hp n i lo len},Yo hp n (.sl i lo len:D)=XB hp n (.sl i lo len:D))∧(∀{i off},D.cells (.pt i off:D)=[(.pt i off:D)])∧(∀{i off},Yb (.pt i off:D)=some [(.pt i off:D)])∧(∀{i off},D.flat0 (.pt i off:D)=false)∧(∀{i off},D.flatE (.pt i off:D)=D.flat0 (.pt i off:D))∧(∀{i off},D.flat1 (.pt i off:D)=D.flat0 (.pt i off:D))∧(∀{i off},D.flat2 (.pt i off:D)=D.flat1 (.pt i off:D))∧(∀{i off},D.flat (.pt i off:D)=D.flat2 (.pt i off:D))∧(∀{hp i off},Xa hp (.pt i off:D)=none)∧(∀{hp i off},Xv hp (.pt i off:D)=(match lk hp i with|some (.box cs)=>(Q1 (Xa hp) cs).map fun l=>.ref (l.drop off)|_=>none))∧(∀{hp i off},Xz hp (.pt i off:D)=Xv hp (.pt i off:D))∧(∀{hp i off},pur hp (.pt i off:D)=Xa hp (.pt i off:D))∧(∀{hp i off},Xl hp (.pt i off:D)=none)∧(∀{hp i off},Xx hp (.pt i off:D)=(match lk hp i with|some (.box cs)=>if off=0 then (XS Xl (rm hp i) cs).map fun (l,hp)=>(.box l,hp) else none|_=>none))∧(∀{hp i off},Zn hp (.pt i off:D)=Xx hp (.pt i off:D))∧(∀{n i off},Q6 n (.pt i off:D)=((.pt i off:D),[],n))∧(∀{n i off},Xg n (.pt i off:D)=Q6 n (.pt i off:D))∧(∀{n i off},XI n (.pt i off:D)=Xg n (.pt i off:D))∧(∀{i off},D.ids (.pt i off:D)=[])∧(∀{i off},D.ids0 (.pt i off:D)=[])∧(∀{m hp i off},rdS hp m (.pt i off:D)=none)∧(∀{m i off},XT m (.pt i off:D)=false)∧(∀{i off},YX (.pt i off:D)=false)∧(∀{i off},YH (.pt i off:D)=none)∧(∀{hp n i off},Xr hp n (.pt i off:D)=(.undef,n))∧(∀{hp n i off},XB hp n (.pt i off:D)=(match lk n.m i with|some j=>(.pt j off,n)|none=>match lk hp i with|some (.box cs)=>Qdj i off (X1 (Xr hp) n cs)|_=>(.undef,n)))∧(∀{hp n i off},Yo hp n (.pt i off:D)=XB hp n (.pt i off:D))∧(∀{i j off},D.cells (.pe i j off:D)=[(.pe i j off:D)])∧(∀{i j off},Yb (.pe i j off:D)=some [(.pe i j off:D)])∧(∀{i j off},D.flat0 (.pe i j off:D)=false)∧(∀{i j off},D.flatE (.pe i j off:D)=D.flat0 (.pe i j off:D))∧(∀{i j off},D.flat1 (.pe i j off:D)=D.flat0 (.pe i j off:D))∧(∀{i j off},D.flat2 (.pe i j off:D)=D.flat1 (.pe i j off:D))∧(∀{i j off},D.flat (.pe i j off:D)=D.flat2 (.pe i j off:D))∧(∀{hp i j off},Xa hp (.pe i j off:D)=none)∧(∀{hp i j off},Xv hp (.pe i j off:D)=Xa hp (.pe i j off:D))∧(∀{hp i j off},Xz hp (.pe i j off:D)=Xv hp (.pe i j off:D))∧(∀{hp i j off},pur hp (.pe i j off:D)=Xa hp (.pe i j off:D))∧(∀{hp i j off},Xl hp (.pe i j off:D)=none)∧(∀{hp i j off},Xx hp (.pe i j off:D)=Xl hp (.pe i j off:D))∧(∀{hp i j off},Zn hp (.pe i j off:D)=Xx hp (.pe i j off:D))∧(∀{n i j off},Q6 n (.pe i j off:D)=((.pe i j off:D),[],n))∧(∀{n i j off},Xg n (.pe i j off:D)=Q6 n (.pe i j off:D))∧(∀{n i j off},XI n (.pe i j off:D)=Xg n (.pe i j off:D))∧(∀{i j off},D.ids (.pe i j off:D)=[])∧(∀{i j off},D.ids0 (.pe i j off:D)=[])∧(∀{m hp i j off},rdS hp m (.pe i j off:D)=none)∧(∀{m i j off},XT m (.pe i j off:D)=false)∧(∀{i j off},YX (.pe i j off:D)=false)∧(∀{i j off},YH (.pe i j off:D)=none)∧(∀{hp n i j off},Xr hp n (.pe i j off:D)=(.undef,n))∧(∀{hp n i j off},XB hp n (.pe i j off:D)=Xr hp n (.pe i j off:D))∧(∀{hp n i j off},Yo hp n (.pe i j off:D)=XB hp n (.pe i j off:D))∧(D.cells (.undef:D)=[(.undef:D)])∧(Yb (.undef:D)=none)∧(D.flat0 (.undef:D)=false)∧(D.flatE (.undef:D)=D.flat0 (.undef:D))∧(D.flat1 (.undef:D)=D.flat0 (.undef:D))∧(D.flat2 (.undef:D)=D.flat1 (.undef:D))∧(D.flat (.undef:D)=D.flat2 (.undef:D))∧(∀{hp},Xa hp (.undef:D)=none)∧(∀{hp},Xv hp (.undef:D)=Xa hp (.undef:D))∧(∀{hp},Xz hp (.undef:D)=Xv hp (.undef:D))∧(∀{hp},pur hp (.undef:D)=Xa hp (.undef:D))∧(∀{hp},Xl hp (.undef:D)=none)∧(∀{hp},Xx hp (.undef:D)=Xl hp (.undef:D))∧(∀{hp},Zn hp (.undef:D)=Xx hp (.undef:D))∧(∀{n},Q6 n (.undef:D)=((.undef:D),[],n))∧(∀{n},Xg n (.undef:D)=Q6 n (.undef:D))∧(∀{n},XI n (.undef:D)=Xg n (.undef:D))∧(D.ids (.undef:D)=[])∧(D.ids0 (.undef:D)=[])∧(∀{m hp},rdS hp m (.undef:D)=none)∧(∀{m},XT m (.undef:D)=false)∧(YX (.undef:D)=false)∧(YH (.undef:D)=none)∧(∀{hp n},Xr hp n (.undef:D)=(.undef,n))∧(∀{hp n},XB hp n (.undef:D)=Xr hp n (.undef:D))∧(∀{hp n},Yo hp n (.undef:D)=XB hp n (.undef:D))∧(∀{x},asI (.int .i64 x)=some x)∧(∀{k a b},YA .add (.int k a) (.int k b)=if k=k then X9 .add k a b else none)∧(∀{k a b},YA .sub (.int k a) (.int k b)=if k=k then X9 .sub k a b else none)∧(∀{k a b},YA .mul (.int k a) (.int k b)=if k=k then X9 .mul k a b else none)∧(∀{k a b},YA .quo (.int k a) (.int k b)=if k=k then X9 .quo k a b else none)∧(∀{k a b},YA .rem (.int k a) (.int k b)=if k=k then X9 .rem k a b else none)∧(∀{k a b},YA .and (.int k a) (.int k b)=if k=k then X9 .and k a b else none)∧(∀{k a b},YA .or (.int k a) (.int k b)=if k=k then X9 .or k a b else none)∧(∀{k a b},YA .xor (.int k a) (.int k b)=if k=k then X9 .xor k a b else none)∧(∀{k a b},YA .eql (.int k a) (.int k b)=if k=k then X9 .eql k a b else none)∧(∀{k a b},YA .neq (.int k a) (.int k b)=if k=k then X9 .neq k a b else none)∧(∀{k a b},YA .lss (.int k a) (.int k b)=if k=k then X9 .lss k a b else none)∧(∀{k a b},YA .leq (.int k a) (.int k b)=if k=k then X9 .leq k a b else none)∧(∀{k a b},YA .gtr (.int k a) (.int k b)=if k=k then X9 .gtr k a b else none)∧(∀{k a b},YA .geq (.int k a) (.int k b)=if k=k then X9 .geq k a b else none)∧(∀{k k' a b},YA .shl (.int k a) (.int k' b)=if b<0 then none else some (.int k (k.wrap (a*2 ^ (min b.toNat k.bits)))))∧(∀{k k' a b},YA .shr (.int k a) (.int k' b)=if b<0 then none else some (.int k (a.fdiv (2 ^ (min b.toNat k.bits)))))∧(∀{a b},QaR false (.bool a) (.bool b)=some (.bool (decide (a=b))))∧(∀{a b},QaR true (.bool a) (.bool b)=some (.bool (!decide (a=b))))∧(YN [] []=some true)∧(∀{k k' a b l m},YN (.int k a::l) (.int k' b::m)=if k=k' then (YN l m).map fun c=>decide (a=b)&&c else none)∧(∀{k k' x y},Qbj (.int k x) (.int k' y)=if k=k' then some (.int k (if y<x then y else x)) else none)∧(∀{k k' x y},Qbk (.int k x) (.int k' y)=if k=k' then some (.int k (if x<y then y else x)) else none)∧(∀{sz xs},Ent.frozen (.arr sz xs)=(.imm sz xs))∧(∀{sz xs},Ent.frozen (.imm sz xs)=(.imm sz xs))∧(∀{sz l},Ent.frozen (.nst sz l)=(.nst sz l))∧(∀{cs},Ent.frozen (.box cs)=(.box cs)):=⟨rfl,rfl,rfl,rfl,rfl,rfl,rfl,rfl,rfl,rfl,rfl,rfl,rfl,rfl,rfl,rfl,rfl,rfl,rfl,rfl,rfl,rfl,rfl,rfl,rfl,rfl,rfl,rfl,rfl,rfl,rfl,rfl,rfl,rfl,rfl,rfl,rfl,rfl,rfl,rfl,rfl,rfl,rfl,rfl,rfl,rfl,rfl,rfl,rfl,rfl,rfl,rfl,rfl,rfl,rfl,rfl,rfl,rfl,rfl,rfl,rfl,rfl,rfl,rfl,rfl,rfl,rfl,rfl,rfl,rfl,rfl,rfl,rfl,rfl,rfl,rfl,rfl,rfl,rfl,rfl,rfl,rfl,rfl,rfl,rfl,rfl,rfl,rfl,rfl,rfl,rfl,rfl,rfl,rfl,rfl,rfl,rfl,rfl,rfl,rfl,rfl,rfl,rfl,rfl,rfl,rfl,rfl,rfl,rfl,rfl,rfl,rfl,rfl,rfl,rfl,rfl,rfl,rfl,rfl,rfl,rfl,rfl,rfl,rfl,rfl,rfl,rfl,rfl,rfl,rfl,rfl,rfl,rfl,rfl,rfl,rfl,rfl,rfl,rfl,rfl,rfl,rfl,rfl,rfl,rfl,rfl,rfl,rfl,rfl,rfl,rfl,rfl,rfl,rfl,rfl,rfl,rfl,rfl,rfl,rfl⟩
def QoB{β:Type}:Option β→Option (List β)→Option (List β)
 |some b,some m=>some (b::m)
 |_,_=>none
def Qgr(hp:qHp)(o:Option (List D)):Option (List D×qHp):=o.map fun l=>(l,hp)
def Qgs{β:Type}(e:β):Option (List β×qHp)→Option (List β×qHp)
 |some (l,hp)=>some (e::l,hp)
 |none=>none
def QoC{β:Type}(f:qHp→D→Option (β×qHp))(o:Option (β×qHp))(ds:List D):Option (List β×qHp):=match o with
 |some (e,hp)=>Qgs e (XS f hp ds)
 |none=>none
def Qgt{β:Type}(b:β)(e:qHp)(r:List β×qHp×Nat):List β×qHp×Nat:=(b::r.1,e++r.2.1,r.2.2)
def QoD{β:Type}(f:Nat→D→β×qHp×Nat)(r:β×qHp×Nat)(ds:List D):List β×qHp×Nat:=Qgt r.1 r.2.1 (Xj f r.2.2 ds)
def Qgu(d:D)(r:List D×NS):List D×NS:=(d::r.1,r.2)
def QoE(f:NS→D→D×NS)(r:D×NS)(ds:List D):List D×NS:=Qgu r.1 (X1 f r.2 ds)
def QoF(r:qSl×NS):St:=⟨r.1,r.2.e,r.2.k⟩
def Qgv(t:Nat)(d:D)(r:qSl×NS):qSl×NS:=((t,d)::r.1,r.2)
def Qgw(s:St)(t:Nat)(l:List Nat)(r:D×NS):qSl×NS:=Qgv t r.1 (Za s l r.2)
def Qgx(s:St)(t:Nat)(l:List Nat)(n:NS):Option D→qSl×NS
 |some d=>Qgw s t l (Yo s.hp n d)
 |none=>Za s l n
def QoG(r:qSl×qHp×Nat):St:=⟨r.1,r.2.1,r.2.2⟩
def Qgy(t:Nat)(d:D)(e:qHp)(r:qSl×qHp×Nat):qSl×qHp×Nat:=((t,d)::r.1,e++r.2.1,r.2.2)
def QoH(t:Nat)(r:D×qHp×Nat)(ds:List D):qSl×qHp×Nat:=Qgy t r.1 r.2.1 (ZD (t+1) r.2.2 ds)
theorem QRT{α β:Type}{f:α→Option β}{a:α}{l:List α}:Q1 f (a::l)=QoB (f a) (Q1 f l):=by simp only[Q1];cases f a<;>cases Q1 f l<;>rfl
theorem QRU:(∀{α:Type}{n:Nat},lk ([]:List (Nat×α)) n=none)∧(∀{α:Type}{k n:Nat}{a:α}{l:List (Nat×α)},lk ((k,a)::l) n=if n=k then some a else lk l n)∧(∀{α:Type}{n:Nat}{x:α},up ([]:List (Nat×α)) n x=[(n,x)])∧(∀{α:Type}{k n:Nat}{a x:α}{l:List (Nat×α)},up ((k,a)::l) n x=if n=k then (k,x)::l else (k,a)::up l n x)∧(∀{α:Type}{n:Nat},rm ([]:List (Nat×α)) n=[])∧(∀{α:Type}{k n:Nat}{a:α}{l:List (Nat×α)},rm ((k,a)::l) n=if n=k then rm l n else (k,a)::rm l n)∧(∀{keep},fil keep []=[])∧(∀{keep t d l},fil keep ((t,d)::l)=if keep.contains t then (t,d)::fil keep l else fil keep l)∧(∀{t d l},Xe (some t) d l=up l t d)∧(∀{d l},Xe none d l=l)∧(∀{n l},ev l (.t n)=lk l n)∧(∀{d l},ev l (.k d)=some d)∧(∀{α β:Type}{f:α→Option β},Q1 f []=some [])∧(∀{β:Type}{b:β}{l:List β},QoB (some b) (some l)=some (b::l))∧(∀{hp ds},Z4 hp [] ds=Qgr hp (Q1 (Xz hp) ds))∧(∀{hp ds},Qgr hp (some ds)=some (ds,hp))∧(∀{α:Type}{a:α},([]:List α).headD a=a)∧(∀{α:Type}{a b:α}{l:List α},(b::l).headD a=b)∧(∀{α:Type},([]:List α).tail=[])∧(∀{α:Type}{b:α}{l:List α},(b::l).tail=l)∧(∀{β:Type}{f:qHp→D→Option (β×qHp)}{hp:qHp},XS f hp []=some ([],hp))∧(∀{β:Type}{f:qHp→D→Option (β×qHp)}{hp:qHp}{d:D}{ds:List D},XS f hp (d::ds)=QoC f (f hp d) ds)∧(∀{β:Type}{f:qHp→D→Option (β×qHp)}{hp:qHp}{e:β}{ds:List D},QoC f (some (e,hp)) ds=Qgs e (XS f hp ds))∧(∀{β:Type}{hp:qHp}{e:β}{ds:List β},Qgs e (some (ds,hp))=some (e::ds,hp))∧(∀{β:Type}{f:Nat→D→β×qHp×Nat}{n:Nat},Xj f n []=([],[],n))∧(∀{β:Type}{f:Nat→D→β×qHp×Nat}{n:Nat}{d:D}{ds:List D},Xj f n (d::ds)=QoD f (f n d) ds)∧(∀{β:Type}{f:Nat→D→β×qHp×Nat}{b:β}{e:qHp}{n:Nat}{ds:List D},QoD f (b,e,n) ds=Qgt b e (Xj f n ds))∧(∀{β:Type}{b:β}{e e':qHp}{n:Nat}{l:List β},Qgt b e (l,e',n)=(b::l,e++e',n))∧(∀{keep s},norm keep s=QoF (Za s keep ⟨[],[],0⟩))∧(∀{l m e k},QoF (l,⟨m,e,k⟩)=⟨l,e,k⟩)∧(∀{s n},Za s [] n=([],n))∧(∀{sl hp x t l n},Za ⟨sl,hp,x⟩ (t::l) n=Qgx ⟨sl,hp,x⟩ t l n (lk sl t))∧(∀{sl hp x t l n d},Qgx ⟨sl,hp,x⟩ t l n (some d)=Qgw ⟨sl,hp,x⟩ t l (Yo hp n d))∧(∀{s t l n},Qgx s t l n none=Za s l n)∧(∀{s t l n d},Qgw s t l (d,n)=Qgv t d (Za s l n))∧(∀{t d l n},Qgv t d (l,n)=((t,d)::l,n))∧(∀{f:NS→D→D×NS}{n:NS},X1 f n []=([],n))∧(∀{f:NS→D→D×NS}{n:NS}{d:D}{ds:List D},X1 f n (d::ds)=QoE f (f n d) ds)∧(∀{f:NS→D→D×NS}{n:NS}{d:D}{ds:List D},QoE f (d,n) ds=Qgu d (X1 f n ds))∧(∀{n d ds},Qgu d (ds,n)=(d::ds,n))∧(∀{i off k l m e},Qdj i off (l,⟨m,e,k⟩)=(.pt k off,⟨(i,k)::m,e++[(k,.box l)],k+1⟩))∧(∀{ds},init ds=QoG (ZD 0 0 ds))∧(∀{sl hp n},QoG (sl,hp,n)=⟨sl,hp,n⟩)∧(∀{t n},ZD t n []=([],[],n))∧(∀{t n d ds},ZD t n (d::ds)=QoH t (Xg n d) ds)∧(∀{t n d e ds},QoH t (d,e,n) ds=Qgy t d e (ZD (t+1) n ds))∧(∀{t n d sl e e'},Qgy t d e (sl,e',n)=((t,d)::sl,e++e',n)):=⟨rfl,rfl,rfl,rfl,rfl,rfl,rfl,rfl,rfl,rfl,rfl,rfl,rfl,rfl,rfl,rfl,rfl,rfl,rfl,rfl,rfl,rfl,rfl,rfl,rfl,rfl,rfl,rfl,rfl,rfl,rfl,rfl,rfl,rfl,rfl,rfl,rfl,rfl,rfl,rfl,rfl,rfl,rfl,rfl,rfl,rfl,rfl⟩
def QdI(hp0:qHp)(ds:List D)(l:qSl)(hp:qHp)(id:Nat)(a:List D×qHp×Nat):Option (Nat×qHp):=Yj hp0 ds a.2.2 l ((id,.box a.1)::(a.2.1++hp))
def QdJ(hp0:qHp)(ds:List D)(n:Nat)(l:qSl)(hp:qHp)(m:Option D)(d:D):Option (Nat×qHp):=match m,d with
 |some (.sl id 0 len),.arr sz xs=>if xs.length=len∧Qar hp0 id=some sz then Yj hp0 ds n l ((id,.arr sz xs)::hp) else none
 |some (.pt id 0),.box cs=>if cs.all XC=true then QdI hp0 ds l hp id (Xj Q6 n cs) else none
 |_,_=>none
def QoI(f:qHp→Option (List D×qHp))(o:Option (D×qHp)):Option (List D×qHp):=match o with
 |some (e,hp1)=>match f hp1 with
  |some (l,hp2)=>some (e::l,hp2)
  |none=>none
 |none=>none
def QoJ(e:D)(o:Option (List D×qHp)):Option (List D×qHp):=match o with
 |some (l,hp2)=>some (e::l,hp2)
 |none=>none
def Qcr(o:Option D)(p:Option (List D)):Option (List D):=match o,p with
 |some e,some l=>some (e::l)
 |_,_=>none
def QoK(md:List Md)(o:Option (List D×qHp)):Option (List D×qHp):=match o with
 |some (es,hp1)=>(XL hp1 md es).map fun l=>(l,hp1)
 |none=>none
def Qgz(l:List Nat)(i:Nat)(hp:qHp)(o:Option Ent):qHp:=match o with
 |some e=>Xd l (up hp i e.frozen)
 |none=>Xd l hp
def QgA(n:Nat)(d:D)(o:Option (Nat×qHp)):Option (D×qHp):=match o with
 |some (n',hp')=>if n'≤n+64 then some (d,hp') else none
 |none=>none
def QgB(n:Nat)(hp0:qHp)(ds:List D)(outs:qSl)(a:D×qHp×Nat)(hp:qHp):Option (D×qHp):=QgA n a.1 (Yj hp0 ds a.2.2 outs (a.2.1++hp))
def QgC(sl:qSl)(off n:Nat)(ps:List (Nat×Nat×X))(cs:List D)(o:Option (List D)):Option (List D):=match o with
 |some l=>if l.length=n∧off+n≤cs.length then Zy sl ps (XY cs off l) else none
 |none=>none
def bs4(ids:List Nat)(o:Option (List D×List Nat)):Option (List D×List Nat):=o.map fun (l,f)=>(l,ids++f)
def bs3(sl:qSl)(hp:qHp)(sz i:Nat)(ps:List (Nat×X))(es:List D)(ids:List Nat)(o:Option D):Option (List D×List Nat):=match o with
 |some e=>if XT sz e∧i<es.length then bs4 ids (Yh sl hp sz ps (es.set i e)) else none
 |none=>none
def bs2(sl:qSl)(hp:qHp)(sz i:Nat)(ps:List (Nat×X))(es:List D)(o:Option D):Option (List D×List Nat):=match o with
 |some d=>bs3 sl hp sz i ps es d.ids (pur hp d)
 |none=>none
def QgD(f:D→D→Option D)(l:List D)(o:Option D):Option D:=match o with
 |some c=>YW f c l
 |none=>none
def rv3(ag:Bool)(m:Nat)(o:Option Ent):Option D:=match o with
 |some (.box cs)=>Yg ag 0 m cs
 |_=>none
def rv2(s:St)(ag:Bool)(m:Nat)(o:Option D):Option D:=match o with
 |some (.pt id 0)=>rv3 ag m (lk s.hp id)
 |_=>none
def Qa0:List D→D
 |[d]=>d
 |l=>.tup l
def QgE(outs:List Nat)(n:Nat)(o:Option (List D×qHp)):Option (D×qSl):=match o with
 |some (l,_)=>if l.length=n+outs.length then some (Qa0 (l.take n),outs.zip (l.drop n)) else none
 |none=>none
def QgF(s:St)(outs:List Nat)(o:Option (List D)):Option (D×qSl):=match o with
 |some ds=>QgE outs ds.length (XS Xx s.hp (ds++(outs.filterMap fun i=>lk s.sl i)))
 |none=>none
theorem QRV{n:Nat}{sl:qSl}{hp:qHp}{c a b}:eff n sl hp (.pick c a b)=(match ev sl c with
  |some (.bool true)=>(ev sl a).map fun d=>(d,hp)
  |some (.bool false)=>(ev sl b).map fun d=>(d,hp)
  |_=>none):=id rfl
theorem QRW{n:Nat}{sl:qSl}{hp:qHp}{ag m x}:eff n sl hp (.load ag m x)=(match ev sl x with
  |some (.pt id off)=>match lk hp id with
   |some (.box cs)=>(Yg ag off m cs).map fun d=>(d,hp)
   |_=>none
  |some (.ref cs)=>(Yg ag 0 m cs).map fun d=>(d,hp)
  |some (.pe id i off)=>match lk hp id with
   |some (.arr _ xs)=>match xs[i]? with
    |some e=>(Yg ag off m e.cells).map fun d=>(d,hp)
    |none=>none
   |some (.imm _ xs)=>match xs[i]? with
    |some e=>(Yg ag off m e.cells).map fun d=>(d,hp)
    |none=>none
   |_=>none
  |_=>none):=id rfl
theorem QRX{n:Nat}{sl:qSl}{hp:qHp}{m a x}:eff n sl hp (.store m a x)=(match ev sl a,ev sl x with
  |some (.pt id off),some d=>match lk hp id,Yb d with
   |some (.box cs),some l=>if l.length=m∧off+m≤cs.length then some (.undef,up hp id (.box (XY cs off l))) else none
   |_,_=>none
  |some (.pe id i off),some d=>match lk hp id with
   |some (.arr sz xs)=>match xs[i]?,pur hp d with
    |some e,some d'=>if d'.cells.length=m∧off+m≤e.cells.length∧d.ids.contains id=false then
      (if m=sz then (if XT sz d' then some (.undef,up (Xd d.ids hp) id (.arr sz (xs.set i d'))) else none)
       else if XT sz (.agg (XY e.cells off d'.cells)) then some (.undef,up (Xd d.ids hp) id (.arr sz (xs.set i (.agg (XY e.cells off d'.cells))))) else none) else none
    |_,_=>none
   |_=>none
  |_,_=>none):=id rfl
theorem QRY{n:Nat}{sl:qSl}{hp:qHp}{op x y}:eff n sl hp (.bin op x y)=(match ev sl x,ev sl y with
  |some a,some b=>(YA op a b).map fun d=>(d,hp)
  |_,_=>none):=id rfl
theorem QRZ{n:Nat}{sl:qSl}{hp:qHp}{m neg x y}:eff n sl hp (.eqA m neg x y)=(match ev sl x,ev sl y with
  |some (.agg a),some (.agg b)=>if a.length=m then (YN a b).map fun c=>(.bool (if neg then !c else c),hp) else none
  |_,_=>none):=id rfl
theorem QR0{n:Nat}{sl:qSl}{hp:qHp}{neg x y}:eff n sl hp (.eqB neg x y)=(match ev sl x,ev sl y with
  |some a,some b=>(QaR neg a b).map fun d=>(d,hp)
  |_,_=>none):=id rfl
theorem QR1{n:Nat}{sl:qSl}{hp:qHp}{x}:eff n sl hp (.not x)=(match ev sl x with
  |some (.bool b)=>some (.bool (!b),hp)
  |_=>none):=id rfl
theorem QR2{n:Nat}{sl:qSl}{hp:qHp}{k x}:eff n sl hp (.conv k x)=(match ev sl x with
  |some (.int _ m)=>some (.int k (k.wrap m),hp)
  |_=>none):=id rfl
theorem QR3{n:Nat}{sl:qSl}{hp:qHp}{sz by_ z l}:eff n sl hp (.makeSl sz by_ z l)=(match (ev sl l).bind asI with
  |some m=>if 0≤m∧YY m.toNat by_ then some (.sl n 0 m.toNat,up hp n (.arr sz (List.replicate m.toNat z))) else none
  |none=>none):=id rfl
theorem QR4{n:Nat}{sl:qSl}{hp:qHp}{sz x lo hi}:eff n sl hp (.slc sz x lo hi)=(match ev sl x,Y9 sl 0 lo with
  |some (.sl id lo0 len),some l=>match Y9 sl len hi with
   |some h=>if 0≤l∧l≤h∧h≤len∧entSz hp id=some sz then some (.sl id (lo0+l.toNat) (h.toNat-l.toNat),hp) else none
   |none=>none
  |some (.lst sz' xs),some l=>match Y9 sl xs.length hi with
   |some h=>if 0≤l∧l≤h∧h≤xs.length∧sz'=sz then some (.lst sz ((xs.take h.toNat).drop l.toNat),hp) else none
   |none=>none
  |some (.nl sz'),some l=>match Y9 sl 0 hi with
   |some h=>if l=0∧h=0 then some (.nl sz',hp) else none
   |none=>none
  |_,_=>none):=id rfl
theorem QR5{n:Nat}{sl:qSl}{hp:qHp}{off x}:eff n sl hp (.fad off x)=(match ev sl x with
  |some (.pt id o)=>some (.pt id (o+off),hp)
  |some (.ref cs)=>if off≤cs.length then some (.ref (cs.drop off),hp) else none
  |some (.pe id i o)=>some (.pe id i (o+off),hp)
  |_=>none):=id rfl
theorem QR6{n:Nat}{sl:qSl}{hp:qHp}{ag off m x}:eff n sl hp (.fld ag off m x)=(match ev sl x with
  |some (.agg cs)=>(Yg ag off m cs).map fun d=>(d,hp)
  |_=>none):=id rfl
theorem QR7{n:Nat}{sl:qSl}{hp:qHp}{sz x i}:eff n sl hp (.iad sz x i)=(match ev sl x,(ev sl i).bind asI with
  |some (.sl id lo len),some j=>if 0≤j∧j<len∧entSz hp id=some sz then some (.pe id (lo+j.toNat) 0,hp) else none
  |some (.lst sz' xs),some j=>if 0≤j∧sz'=sz then (match xs[j.toNat]? with|some e=>some (.ref e.cells,hp)|none=>none) else none
  |_,_=>none):=id rfl
theorem QR8{n:Nat}{sl:qSl}{hp:qHp}{m sz x i}:eff n sl hp (.iaa m sz x i)=(match ev sl x,(ev sl i).bind asI with
  |some (.pt id o),some j=>if 0≤j∧j<m then some (.pt id (o+j.toNat*sz),hp) else none
  |some (.ref cs),some j=>if 0≤j∧j<m∧j.toNat*sz≤cs.length then some (.ref (cs.drop (j.toNat*sz)),hp) else none
  |_,_=>none):=id rfl
theorem QR9{n:Nat}{sl:qSl}{hp:qHp}{ag m sz x i}:eff n sl hp (.idx ag m sz x i)=(match ev sl x,(ev sl i).bind asI with
  |some (.agg cs),some j=>if 0≤j∧j<m then (Yg ag (j.toNat*sz) sz cs).map fun d=>(d,hp) else none
  |_,_=>none):=id rfl
theorem QSa{n:Nat}{sl:qSl}{hp:qHp}{sz by_ x y}:eff n sl hp (.app sz by_ x y)=(match ev sl x,(ev sl y).bind (rdS hp sz) with
  |some (.nl _),some ys=>if YY ys.length by_ then some (.sl n 0 ys.length,up hp n (.arr sz ys)) else none
  |some (.sl id lo len),some ys=>match lk hp id with
   |some (.arr sz' xs)=>if lo=0∧sz'=sz∧YY (len+ys.length) by_ then
     (if len=xs.length then some (.sl n 0 (len+ys.length),up (rm hp id) n (.arr sz (xs++ys)))
      else if len≤xs.length then some (.sl n 0 (len+ys.length),up (rm hp id) n (.arr sz (xs.take len++ys))) else none) else none
   |_=>none
  |_,_=>none):=id rfl
theorem QSb{n:Nat}{sl:qSl}{hp:qHp}{x}:eff n sl hp (.cap x)=(match ev sl x with
  |some (.nl _)=>some (.int .i64 0,hp)
  |_=>none):=id rfl
theorem QSc{n:Nat}{sl:qSl}{hp:qHp}{sz x}:eff n sl hp (.clr sz x)=(match ev sl x with
  |some (.nl _)=>some (.undef,hp)
  |some (.sl id lo len)=>match lk hp id with
   |some (.arr sz' xs)=>if sz'=sz∧lo≤xs.length∧xs.length≤lo+len then some (.undef,up hp id (.arr sz (xs.take lo))) else none
   |_=>none
  |_=>none):=id rfl
theorem QSd{n:Nat}{sl:qSl}{hp:qHp}{sz by_ z x l}:eff n sl hp (.appz sz by_ z x l)=(match ev sl x,(ev sl l).bind asI with
  |some (.nl _),some m=>if 0<m∧YY m.toNat by_ then some (.sl n 0 m.toNat,up hp n (.arr sz (List.replicate m.toNat z))) else none
  |_,_=>none):=id rfl
theorem QSe{n:Nat}{sl:qSl}{hp:qHp}{x}:eff n sl hp (.len x)=(match ev sl x with
  |some (.sl _ _ len)=>some (.int .i64 len,hp)
  |some (.lst _ xs)=>some (.int .i64 xs.length,hp)
  |some (.nl _)=>some (.int .i64 0,hp)
  |_=>none):=id rfl
theorem QSf{n:Nat}{sl:qSl}{hp:qHp}{xs}:eff n sl hp (.mn xs)=(match Q1 (ev sl) xs with
  |some (a::l)=>(YW Qbj a l).map fun d=>(d,hp)
  |_=>none):=id rfl
theorem QSg{n:Nat}{sl:qSl}{hp:qHp}{xs}:eff n sl hp (.mx xs)=(match Q1 (ev sl) xs with
  |some (a::l)=>(YW Qbk a l).map fun d=>(d,hp)
  |_=>none):=id rfl
theorem QSh{n:Nat}{sl:qSl}{hp:qHp}{x i}:eff n sl hp (.ext x i)=(match ev sl x with
  |some (.tup ds)=>match ds[i]? with|some d=>some (d,hp)|none=>none
  |_=>none):=id rfl
theorem QSi{ds:List D}:Xw [] ds=ds:=by cases ds<;>rfl
theorem QSj{m:Md}{l:List Md}:Xw (m::l) []=[]:=by cases m<;>rfl
theorem QSk:(∀{n sl hp x},eff n sl hp (.mov x)=((ev sl x).map fun d=>(d,hp)))∧(∀{n sl hp z},eff n sl hp (.alloc z)=(some (.pt n 0,up hp n (.box z))))∧(∀{n sl hp x},eff n sl hp (.bx x)=(((ev sl x).bind Yb).map fun cs=>(.pt n 0,up hp n (.box cs))))∧(∀{n sl hp z ps},eff n sl hp (.build z ps)=((Zy sl ps z).map fun cs=>(.agg cs,hp)))∧(∀{n sl hp sz by_ z m ps},eff n sl hp (.buildSl sz by_ z m ps)=(if YY m by_ then (Yh sl hp sz ps (List.replicate m z)).map fun (es,f)=>(.sl n 0 m,up (Xd f hp) n (.arr sz es)) else none))∧(∀{n sl hp f caps},eff n sl hp (.mkf f caps)=((Q1 (ev sl) caps).map fun l=>(.clo f l,hp)))∧(∀{n sl hp},eff n sl hp .bad=none)∧(∀{n},Yz n []=[])∧(∀{n l},Yz n (.mu::l)=n::Yz (n+1) l)∧(∀{n l},Yz n (.rd::l)=Yz (n+1) l)∧(∀{n l},Yz n (.ow::l)=Yz (n+1) l)∧(∀{n l},Yz n (.mp::l)=n::Yz (n+1) l)∧(∀{l d ds},Xw (.rd::l) (d::ds)=d::Xw l ds)∧(∀{l d ds},Xw (.mu::l) (d::ds)=Xw l ds)∧(∀{l d ds},Xw (.ow::l) (d::ds)=Xw l ds)∧(∀{l d ds},Xw (.mp::l) (d::ds)=Xw l ds):=⟨rfl,rfl,rfl,rfl,rfl,rfl,rfl,rfl,rfl,rfl,rfl,rfl,rfl,rfl,rfl,rfl⟩
section
variable {hp:qHp} {l:List Md} {d:D} {ds:List D}
theorem QSl:Yi hp [] ds=some (ds,hp):=by cases ds<;>rfl
theorem QSm:XL hp [] ds=Q1 (Xz hp) ds:=by cases ds<;>rfl
theorem QSn{m:Md}:XL hp (m::l) []=some []:=by cases m<;>rfl
theorem QSo:XL hp (.mu::l) (d::ds)=Qcr (some d) (XL hp l ds):=by simp only[XL];cases XL hp l ds<;>rfl
theorem QSp:XL hp (.ow::l) (d::ds)=Qcr (some d) (XL hp l ds):=by simp only[XL];cases XL hp l ds<;>rfl
theorem QSq:XL hp (.mp::l) (d::ds)=Qcr (some d) (XL hp l ds):=by simp only[XL];cases XL hp l ds<;>rfl
theorem QSr:(∀{hp l ds m},Z4 hp (m::l) ds=QoK (m::l) (Yi hp (m::l) ds))∧(∀{hp l ds},QoK l (some (ds,hp))=Qgr hp (XL hp l ds))∧(∀{hp l m},Yi hp (m::l) []=some ([],hp))∧(∀{hp l d ds m},Yi hp (m::l) (d::ds)=QoI (fun hp1=>Yi hp1 l ds) (ZQ hp m d))∧(∀{hp d},ZQ hp .rd d=some (d,hp))∧(∀{hp d},ZQ hp .mu d=Zb hp d)∧(∀{hp d},ZQ hp .ow d=Zb hp d)∧(∀{hp s},Zb hp (.nl s)=some (.nl s,hp))∧(∀{hp i a b},Zb hp (.sl i a b)=Xl hp (.sl i a b))∧(∀{hp i l},Zb hp (.lst i l)=Xl hp (.lst i l))∧(∀{hp k x},Zb hp (.int k x)=Xl hp (.int k x))∧(∀{hp b},Zb hp (.bool b)=Xl hp (.bool b))∧(∀{hp b},Zb hp (.str b)=Xl hp (.str b))∧(∀{hp},Zb hp .nf=Xl hp .nf)∧(∀{hp d},ZQ hp .mp d=Xx hp d)∧(∀{hp:qHp}{d:D}{f:qHp→Option (List D×qHp)},QoI f (some (d,hp))=QoJ d (f hp))∧(∀{hp d ds},QoJ d (some (ds,hp))=some (d::ds,hp))∧(∀{hp l d ds},XL hp (.rd::l) (d::ds)=Qcr (Xz hp d) (XL hp l ds))∧(∀{d ds},Qcr (some d) (some ds)=some (d::ds)):=⟨rfl,rfl,rfl,rfl,rfl,rfl,rfl,rfl,rfl,rfl,rfl,rfl,rfl,rfl,rfl,rfl,rfl,rfl,rfl⟩
end
theorem QSs{hp0:qHp}{ds:List D}{n i:Nat}{d:D}{l:qSl}{hp:qHp}:Yj hp0 ds n ((i,d)::l) hp=QdJ hp0 ds n l hp (ds[i]?) d:=by
 simp only[Yj,QdJ,QdI];split<;>first|rfl|(simp_all;done)|(simp_all;rfl)
theorem QSt:(∀{hp0 ds n hp},Yj hp0 ds n [] hp=some (n,hp))∧(∀{hp0 ds n i len sz xs l hp},QdJ hp0 ds n l hp (some (.sl i 0 len)) (.arr sz xs)=if xs.length=len∧Qar hp0 i=some sz then Yj hp0 ds n l ((i,.arr sz xs)::hp) else none)∧(∀{hp0 ds n i cs l hp},QdJ hp0 ds n l hp (some (.pt i 0)) (.box cs)=if cs.all XC=true then QdI hp0 ds l hp i (Xj Q6 n cs) else none)∧(∀{hp0 ds n i cs l hp e},QdI hp0 ds l hp i (cs,e,n)=Yj hp0 ds n l ((i,.box cs)::(e++hp)))∧(∀{α:Type}{a:α}{l:List α},(a::l)[0]?=some a)∧(∀{α:Type}{a b:α}{l:List α},(a::b::l)[1]?=some b)∧(∀{α:Type}{a b c:α}{l:List α},(a::b::c::l)[2]?=some c):=⟨rfl,rfl,rfl,rfl,rfl,rfl,rfl⟩
def QoL:Option Ent→Option Nat
 |some (.arr sz _)=>some sz
 |_=>none
theorem QSu{i:Nat}{l:List Nat}{hp:qHp}:Xd (i::l) hp=Qgz l i hp (lk hp i):=by simp only[Xd,Qgz];cases lk hp i<;>rfl
theorem QSv{fz:Bool}{n:Nat}{hp0 hp:qHp}{ds:List D}{md:List Md}{r:D}{outs:qSl}:Qas fz n hp0 hp ds md r outs=
 if outs.map (·.1)=Yz 0 md∧okA r=true then
  if !fz&&(r.flat&&outs.all (fun o=>o.2.flat)) then QgB n hp0 ds outs (XI n r) hp
  else if (Xw md ds).all YC then QgB n hp0 ds outs (XI n r) (Xd ((Xw md ds).flatMap D.ids) hp) else none
 else none:=id rfl
theorem QSw{b:Bool}:(false&&b)=false:=id (by simp)
theorem QSx{sl:qSl}{off n:Nat}{x:X}{ps:List (Nat×Nat×X)}{cs:List D}:Zy sl ((off,n,x)::ps) cs=QgC sl off n ps cs ((ev sl x).bind Yb):=by simp only[Zy,QgC];cases (ev sl x).bind Yb<;>rfl
theorem QSy{sl:qSl}{hp:qHp}{sz i:Nat}{x:X}{ps:List (Nat×X)}{es:List D}:Yh sl hp sz ((i,x)::ps) es=bs2 sl hp sz i ps es (ev sl x):=by
 simp only[Yh,bs2];cases ev sl x with
 |none=>rfl
 |some d=>simp only[bs3];cases pur hp d<;>rfl
theorem QSz{f:D→D→Option D}{a b:D}{l:List D}:YW f a (b::l)=QgD f l (f a b):=by simp only[YW,QgD];cases f a b<;>rfl
theorem QSA{s:St}{n m:Nat}{ag:Bool}:Jm s (.c n ag m)=rv2 s ag m (lk s.sl n):=by
 simp only[Jm,rv2];split
 ·rename_i h;simp only[h];rfl
 ·rename_i h;split
  ·rename_i h2;exact (h _ h2).elim
  ·rfl
theorem QSB{s:St}{rs:List RV}{outs:List Nat}:fin s rs outs=QgF s outs (Q1 (Jm s) rs):=by simp only[fin,QgF];cases Q1 (Jm s) rs with
 |none=>rfl
 |some ds=>simp only[];cases XS Xx s.hp (ds++(outs.filterMap fun i=>lk s.sl i))<;>rfl
theorem QSC:(∀{hp i},Qar hp i=QoL (lk hp i))∧(∀{sz xs},QoL (some (.arr sz xs))=some sz)∧(∀{hp},Xd [] hp=hp)∧(∀{i l hp e},Qgz l i hp (some e)=Xd l (up hp i e.frozen))∧(∀{n m hp0 ds outs d e hp},QgB n hp0 ds outs (d,e,m) hp=QgA n d (Yj hp0 ds m outs (e++hp)))∧(∀{n m d hp},QgA n d (some (m,hp))=if m≤n+64 then some (d,hp) else none)∧(∀{ag off n cs},Yg ag off n cs=if off+n≤cs.length then Jk ag ((cs.drop off).take n) else none)∧(∀{cs},Jk true cs=some (.agg cs))∧(∀{c},Jk false [c]=some c)∧(∀{l off new},XY l off new=l.take off++new++l.drop (off+new.length))∧(∀{sl cs},Zy sl [] cs=some cs)∧(∀{sl off n ps cs l},QgC sl off n ps cs (some l)=if l.length=n∧off+n≤cs.length then Zy sl ps (XY cs off l) else none)∧(∀{sl hp sz es},Yh sl hp sz [] es=some (es,[]))∧(∀{sl hp sz i ps es d},bs2 sl hp sz i ps es (some d)=bs3 sl hp sz i ps es d.ids (pur hp d))∧(∀{sl hp sz i ps es ids e},bs3 sl hp sz i ps es ids (some e)=if XT sz e∧i<es.length then bs4 ids (Yh sl hp sz ps (es.set i e)) else none)∧(∀{ids f l},bs4 ids (some (l,f))=some (l,ids++f))∧(∀{k a b},X9 .add k a b=some (.int k (k.wrap (a+b))))∧(∀{k a b},X9 .sub k a b=some (.int k (k.wrap (a-b))))∧(∀{k a b},X9 .mul k a b=some (.int k (k.wrap (a*b))))∧(∀{k a b},X9 .quo k a b=if b=0 then none else some (.int k (k.wrap (a.tdiv b))))∧(∀{k a b},X9 .rem k a b=if b=0 then none else some (.int k (a.tmod b)))∧(∀{k a b},X9 .and k a b=some (.int k (k.wrap (BitVec.ofInt k.bits a&&&BitVec.ofInt k.bits b).toNat)))∧(∀{k a b},X9 .eql k a b=some (.bool (decide (a=b))))∧(∀{k a b},X9 .neq k a b=some (.bool (!decide (a=b))))∧(∀{k a b},X9 .lss k a b=some (.bool (decide (a<b))))∧(∀{k a b},X9 .leq k a b=some (.bool (decide (a≤b))))∧(∀{k a b},X9 .gtr k a b=some (.bool (decide (b<a))))∧(∀{k a b},X9 .geq k a b=some (.bool (decide (b≤a))))∧(∀{f:D→D→Option D}{a:D},YW f a []=some a)∧(∀{f:D→D→Option D}{c:D}{l:List D},QgD f l (some c)=YW f c l)∧(∀{s n},Jm s (.t n)=lk s.sl n)∧(∀{s ag m i},rv2 s ag m (some (.pt i 0))=rv3 ag m (lk s.hp i))∧(∀{ag m cs},rv3 ag m (some (.box cs))=Yg ag 0 m cs)∧(∀{s outs ds},QgF s outs (some ds)=QgE outs ds.length (XS Xx s.hp (ds++(outs.filterMap fun i=>lk s.sl i))))∧(∀{outs n l hp},QgE outs n (some (l,hp))=if l.length=n+outs.length then some (Qa0 (l.take n),outs.zip (l.drop n)) else none)∧(∀{d},Qa0 [d]=d)∧(∀{a b},Qa0 [a,b]=.tup [a,b])∧(∀{a b c},Qa0 [a,b,c]=.tup [a,b,c])∧(∀{a b c d},Qa0 [a,b,c,d]=.tup [a,b,c,d])∧(Qa0 []=.tup []):=⟨rfl,rfl,rfl,rfl,rfl,rfl,rfl,rfl,rfl,rfl,rfl,rfl,rfl,rfl,rfl,rfl,rfl,rfl,rfl,rfl,rfl,rfl,rfl,rfl,rfl,rfl,rfl,rfl,rfl,rfl,rfl,rfl,rfl,rfl,rfl,rfl,rfl,rfl,rfl,rfl⟩
theorem Q5{α:Type}(st:α→St)(Inv:α→Prop)(μ:α→Nat)(a0:α){keep:List Nat}{body:LC}(h0:norm keep s=st a0)(hi:Inv a0)
  (step:∀a,Inv a→@RUN P body ⟨LX.seq (fun s'=>∃a',norm keep s'=st a'∧Inv a'∧μ a'<μ a) q⟩ (st a)):@RUN P (.loop keep body) ⟨q⟩ s:=by
 simp only[RUN,W]
 refine⟨fun m s=>∃a,Inv a∧st a=s∧μ a=m,⟨_,a0,hi,h0.symm,rfl⟩,?_⟩
 rintro m s ⟨a,ha,rfl,rfl⟩
 refine JR _ ?_ (step a ha)
 refine LX.seq_mono ?_ (fun _ _ h=>h)
 rintro s' ⟨a',hn,hi',hm⟩
 exact⟨_,hm,a',hi',hn.symm,rfl⟩
end
def QgG:Option Ent→List Nat
 |some (.box cs)=>cs.flatMap D.ids0
 |_=>[]
def stI(sl:qSl)(a:D)(x:X):List Nat:=match a with
 | .pt id _=>[id]
 | .pe id _ _=>id::(evL sl x).ids
 |_=>[]
theorem QSD:(∀{cs},QgG (some (.box cs))=cs.flatMap D.ids0)∧(∀{sl i off x},stI sl (.pt i off) x=[i])∧(∀{sl i j off x},stI sl (.pe i j off) x=i::(evL sl x).ids)∧(∀{sl n},evL sl (.t n)=(lk sl n).getD .undef)∧(∀{sl d},evL sl (.k d)=d):=⟨rfl,rfl,rfl,rfl,rfl⟩
def QdK(P:Program)(cs:List (Nat×Option Nat×List Nat×Bool))(n0:Nat)(l:List LI)(i n:Nat)(log:List (Nat×List Nat×List Nat))(s:St)[K:Kt St]:Prop:=WD P cs n0 l i n log s K.go
def CHK(n0:Nat)(o:Option (Option Nat×List Nat×Bool))(log:List (Nat×List Nat×List Nat))(rd mu:List Nat):Prop:=Qbn n0 o log rd mu=true
def QgH(b:Bool)(i:Nat)(rd mu:List Nat)(log:List (Nat×List Nat×List Nat)):List (Nat×List Nat×List Nat):=if b then (i,rd,mu)::log else log
theorem QSE{P:Program}{cs:List (Nat×Option Nat×List Nat×Bool)}{n0:Nat}{log:List (Nat×List Nat×List Nat)}{i n m:Nat}{sl:qSl}{hp:qHp}{K:Kt St}:
  @QdK P cs n0 [] i n log ⟨sl,hp,m⟩ K=K.go ⟨sl,hp,n⟩:=id rfl
theorem QSF{P:Program}{cs:List (Nat×Option Nat×List Nat×Bool)}{n0:Nat}{log:List (Nat×List Nat×List Nat)}{d:Option Nat}{op:LOp}{g:Option (Nat×Bool)}{l:List LI}{i n m:Nat}{sl:qSl}{hp:qHp}{K:Kt St}:
  @QdK P cs n0 (⟨d,op,g⟩::l) i n log ⟨sl,hp,m⟩ K=(CHK n0 (lk cs i) log (rdI sl hp op) (muI sl hp op)∧@Qcp P n ⟨d,op,g⟩ ⟨sl,hp,m⟩ ⟨fun s'=>@QdK P cs n0 l (i+1) (n+64) (QgH (lgE (lk cs i)) i (rdI sl hp op) (muI sl hp op) log) s' K⟩):=id rfl
theorem QSG{n0:Nat}{log:List (Nat×List Nat×List Nat)}{rd mu:List Nat}:CHK n0 none log rd mu=True:=by simp [CHK,Qbn]
theorem QSH:(∀{n0 l b log rd mu},CHK n0 (some (none,l,b)) log rd mu=(l.all (Qaq log rd mu)=true))∧(∀{n0 m l b log rd mu},CHK n0 (some (some m,l,b)) log rd mu=((rd.all (Qbm n0 m)&&l.all (Qaq log rd mu))=true))∧(lgE none=false)∧(∀{o l b},lgE (some (o,l,b))=b)∧(∀{n0 m i},Qbm n0 m i=if i<n0 then true else m/2 ^ ((i-n0)/64)%2==1):=⟨rfl,rfl,rfl,rfl,rfl⟩
def QgI(rd mu:List Nat):Option (List Nat×List Nat)→Bool
 |some p=>JP mu p.1&&JP p.2 rd
 |none=>false
theorem QSI{log:List (Nat×List Nat×List Nat)}{rd mu:List Nat}{j:Nat}:Qaq log rd mu j=QgI rd mu (lk log j):=id (by unfold Qaq QgI;split<;>simp [*])
theorem QoM{P:Program}{n0:Nat}:∀{l:List LI}{i n:Nat}{s:St}{K:St→Prop},WD P [] n0 l i n [] s K=Qat P l n s K
 |[],_,_,_,_=>rfl
 |x::l,i,n,s,K=>by
  simp only[WD,Qat,lk,Qbn,lgE,true_and,Bool.false_eq_true,if_false]
  congr 1;funext s';exact QoM
theorem QSJ{P:Program}{q:LX→St→Prop}{ops:List LI}{keep:List Nat}{sl:qSl}{hp:qHp}{n:Nat}:
  @RUN P (.dreg [] ops keep) ⟨q⟩ ⟨sl,hp,n⟩=@OPS P ops n ⟨sl,hp,n⟩ ⟨fun s'=>@END .normal ⟨fil keep s'.sl,s'.hp,s'.nx⟩ ⟨q⟩⟩:=by simp only[RUN,W,QoM];rfl
theorem QSK{P:Program}{q:LX→St→Prop}{c:Nat×Option Nat×List Nat×Bool}{cs:List (Nat×Option Nat×List Nat×Bool)}{ops:List LI}{keep:List Nat}{sl:qSl}{hp:qHp}{n:Nat}:
  @RUN P (.dreg (c::cs) ops keep) ⟨q⟩ ⟨sl,hp,n⟩=@QdK P (c::cs) n ops 0 n [] ⟨sl,hp,n⟩ ⟨fun s'=>@END .normal ⟨fil keep s'.sl,s'.hp,s'.nx⟩ ⟨q⟩⟩:=by simp only[RUN,W];rfl
theorem QSL:(∀{rd mu a b},QgI rd mu (some (a,b))=(JP mu a&&JP b rd))∧(∀{b},JP [] b=true)∧(∀{x a b},JP (x::a) b=(!(b.contains x)&&JP a b))∧(∀{i rd mu log},QgH true i rd mu log=(i,rd,mu)::log)∧(∀{i rd mu log},QgH false i rd mu log=log)∧(∀{k m},D.hd (.int k m:D)=[])∧(∀{hp k m},D.rch1 hp (.int k m:D)=[])∧(∀{hp k m},D.rch hp (.int k m:D)=[])∧(∀{k m},YB (.int k m:D)=[])∧(∀{b},D.hd (.bool b:D)=[])∧(∀{b},D.hd (.str b:D)=[])∧(D.hd (D.nf)=[])∧(∀{hp b},D.rch1 hp (.bool b:D)=[])∧(∀{hp b},D.rch1 hp (.str b:D)=[])∧(∀{hp},D.rch1 hp (D.nf)=[])∧(∀{hp b},D.rch hp (.bool b:D)=[])∧(∀{hp b},D.rch hp (.str b:D)=[])∧(∀{hp},D.rch hp (D.nf)=[])∧(∀{b},YB (.bool b:D)=[])∧(∀{b},YB (.str b:D)=[])∧(YB (D.nf)=[])∧(∀{z},D.hd (.nl z:D)=[])∧(∀{hp z},D.rch1 hp (.nl z:D)=[])∧(∀{hp z},D.rch hp (.nl z:D)=[])∧(∀{z},YB (.nl z:D)=[])∧(∀{z xs},D.hd (.lst z xs:D)=[])∧(∀{hp z xs},D.rch1 hp (.lst z xs:D)=[])∧(∀{hp z xs},D.rch hp (.lst z xs:D)=[])∧(∀{z xs},YB (.lst z xs:D)=[])∧(∀{z xs},D.hd (.arr z xs:D)=[])∧(∀{hp z xs},D.rch1 hp (.arr z xs:D)=[])∧(∀{hp z xs},D.rch hp (.arr z xs:D)=[])∧(∀{z xs},YB (.arr z xs:D)=[])∧(∀{cs},D.hd (.agg cs:D)=[])∧(∀{hp cs},D.rch1 hp (.agg cs:D)=cs.flatMap D.ids0)∧(∀{hp cs},D.rch hp (.agg cs:D)=cs.flatMap D.ids0)∧(∀{cs},YB (.agg cs:D)=[])∧(∀{cs},D.hd (.tup cs:D)=[])∧(∀{hp cs},D.rch1 hp (.tup cs:D)=[])∧(∀{hp cs},D.rch hp (.tup cs:D)=[])∧(∀{cs},YB (.tup cs:D)=[])∧(∀{cs},D.hd (.ref cs:D)=[])∧(∀{hp cs},D.rch1 hp (.ref cs:D)=[])∧(∀{hp cs},D.rch hp (.ref cs:D)=[])∧(∀{cs},YB (.ref cs:D)=[])∧(∀{cs},D.hd (.box cs:D)=[])∧(∀{hp cs},D.rch1 hp (.box cs:D)=[])∧(∀{hp cs},D.rch hp (.box cs:D)=[])∧(∀{cs},YB (.box cs:D)=[])∧(∀{f cs},D.hd (.clo f cs:D)=[])∧(∀{hp f cs},D.rch1 hp (.clo f cs:D)=[])∧(∀{hp f cs},D.rch hp (.clo f cs:D)=cs.flatMap (D.rch1 hp))∧(∀{f cs},YB (.clo f cs:D)=cs)∧(∀{i lo len},D.hd (.sl i lo len:D)=[i])∧(∀{hp i lo len},D.rch1 hp (.sl i lo len:D)=[i])∧(∀{hp i lo len},D.rch hp (.sl i lo len:D)=[i])∧(∀{i lo len},YB (.sl i lo len:D)=[])∧(∀{i off},D.hd (.pt i off:D)=[i])∧(∀{hp i off},D.rch1 hp (.pt i off:D)=i::QgG (lk hp i))∧(∀{hp i off},D.rch hp (.pt i off:D)=i::QgG (lk hp i))∧(∀{i off},YB (.pt i off:D)=[])∧(∀{i j off},D.hd (.pe i j off:D)=[i])∧(∀{hp i j off},D.rch1 hp (.pe i j off:D)=[])∧(∀{hp i j off},D.rch hp (.pe i j off:D)=[])∧(∀{i j off},YB (.pe i j off:D)=[])∧(D.hd (.undef:D)=[])∧(∀{hp},D.rch1 hp (.undef:D)=[])∧(∀{hp},D.rch hp (.undef:D)=[])∧(YB (.undef:D)=[])∧(∀{sl hp x},rdI sl hp (.mov x)=[])∧(∀{sl hp x},muI sl hp (.mov x)=[])∧(∀{sl hp a b c},rdI sl hp (.pick a b c)=[])∧(∀{sl hp a b c},muI sl hp (.pick a b c)=[])∧(∀{sl hp z},rdI sl hp (.alloc z)=[])∧(∀{sl hp z},muI sl hp (.alloc z)=[])∧(∀{sl hp x},rdI sl hp (.bx x)=[])∧(∀{sl hp x},muI sl hp (.bx x)=[])∧(∀{sl hp z ps},rdI sl hp (.build z ps)=[])∧(∀{sl hp z ps},muI sl hp (.build z ps)=[])∧(∀{sl hp o x y},rdI sl hp (.bin o x y)=[])∧(∀{sl hp o x y},muI sl hp (.bin o x y)=[])∧(∀{sl hp m g x y},rdI sl hp (.eqA m g x y)=[])∧(∀{sl hp m g x y},muI sl hp (.eqA m g x y)=[])∧(∀{sl hp g x y},rdI sl hp (.eqB g x y)=[])∧(∀{sl hp g x y},muI sl hp (.eqB g x y)=[])∧(∀{sl hp x},rdI sl hp (.not x)=[])∧(∀{sl hp x},muI sl hp (.not x)=[])∧(∀{sl hp k x},rdI sl hp (.conv k x)=[])∧(∀{sl hp k x},muI sl hp (.conv k x)=[])∧(∀{sl hp f l},rdI sl hp (.mkf f l)=[])∧(∀{sl hp f l},muI sl hp (.mkf f l)=[])∧(∀{sl hp a b z x},rdI sl hp (.makeSl a b z x)=[])∧(∀{sl hp a b z x},muI sl hp (.makeSl a b z x)=[])∧(∀{sl hp a x},rdI sl hp (.fad a x)=[])∧(∀{sl hp a x},muI sl hp (.fad a x)=[])∧(∀{sl hp a b c x},rdI sl hp (.fld a b c x)=[])∧(∀{sl hp a b c x},muI sl hp (.fld a b c x)=[])∧(∀{sl hp a b x y},rdI sl hp (.iaa a b x y)=[])∧(∀{sl hp a b x y},muI sl hp (.iaa a b x y)=[])∧(∀{sl hp a b c x y},rdI sl hp (.idx a b c x y)=[])∧(∀{sl hp a b c x y},muI sl hp (.idx a b c x y)=[])∧(∀{sl hp x},rdI sl hp (.len x)=[])∧(∀{sl hp x},muI sl hp (.len x)=[])∧(∀{sl hp x},rdI sl hp (.cap x)=[])∧(∀{sl hp x},muI sl hp (.cap x)=[])∧(∀{sl hp a x},rdI sl hp (.clr a x)=(evL sl x).hd)∧(∀{sl hp a x},muI sl hp (.clr a x)=(evL sl x).hd)∧(∀{sl hp a b z x y},rdI sl hp (.appz a b z x y)=[])∧(∀{sl hp a b z x y},muI sl hp (.appz a b z x y)=[])∧(∀{sl hp},rdI sl hp .bad=[])∧(∀{sl hp},muI sl hp .bad=[])∧(∀{sl hp l},rdI sl hp (.mn l)=[])∧(∀{sl hp l},muI sl hp (.mn l)=[])∧(∀{sl hp l},rdI sl hp (.mx l)=[])∧(∀{sl hp l},muI sl hp (.mx l)=[])∧(∀{sl hp g x},rdI sl hp (.isnil g x)=[])∧(∀{sl hp g x},muI sl hp (.isnil g x)=[])∧(∀{sl hp x i},rdI sl hp (.ext x i)=[])∧(∀{sl hp x i},muI sl hp (.ext x i)=[])∧(∀{sl hp a b x},rdI sl hp (.load a b x)=(evL sl x).hd)∧(∀{sl hp a b x},muI sl hp (.load a b x)=[])∧(∀{sl hp a x y z},rdI sl hp (.slc a x y z)=(evL sl x).hd)∧(∀{sl hp a x y z},muI sl hp (.slc a x y z)=[])∧(∀{sl hp a x y},rdI sl hp (.iad a x y)=(evL sl x).hd)∧(∀{sl hp a x y},muI sl hp (.iad a x y)=[])∧(∀{sl hp a x y},rdI sl hp (.store a x y)=stI sl (evL sl x) y)∧(∀{sl hp a x y},muI sl hp (.store a x y)=stI sl (evL sl x) y)∧(∀{sl hp a x y},rdI sl hp (.cpy a x y)=(evL sl x).hd++(evL sl y).hd)∧(∀{sl hp a x y},muI sl hp (.cpy a x y)=(evL sl x).hd):=⟨rfl,rfl,rfl,rfl,rfl,rfl,rfl,rfl,rfl,rfl,rfl,rfl,rfl,rfl,rfl,rfl,rfl,rfl,rfl,rfl,rfl,rfl,rfl,rfl,rfl,rfl,rfl,rfl,rfl,rfl,rfl,rfl,rfl,rfl,rfl,rfl,rfl,rfl,rfl,rfl,rfl,rfl,rfl,rfl,rfl,rfl,rfl,rfl,rfl,rfl,rfl,rfl,rfl,rfl,rfl,rfl,rfl,rfl,rfl,rfl,rfl,rfl,rfl,rfl,rfl,rfl,rfl,rfl,rfl,rfl,rfl,rfl,rfl,rfl,rfl,rfl,rfl,rfl,rfl,rfl,rfl,rfl,rfl,rfl,rfl,rfl,rfl,rfl,rfl,rfl,rfl,rfl,rfl,rfl,rfl,rfl,rfl,rfl,rfl,rfl,rfl,rfl,rfl,rfl,rfl,rfl,rfl,rfl,rfl,rfl,rfl,rfl,rfl,rfl,rfl,rfl,rfl,rfl,rfl,rfl,rfl,rfl,rfl,rfl,rfl,rfl,rfl,rfl,rfl⟩
theorem QSM{n:Nat}{sl:qSl}{hp:qHp}{s x y}:eff n sl hp (.cpy s x y)=(match ev sl x,(ev sl y).bind (rdS hp s) with
  |some (.sl id lo len),some ys=>match lk hp id with
   |some (.arr sz' xs)=>if sz'=s∧lo+len≤xs.length then some (.int .i64 ((min ys.length len:Nat):Int),up hp id (.arr s (XY xs lo (ys.take (min ys.length len))))) else none
   |_=>none
  |_,_=>none):=id rfl
theorem QSN{sl:qSl}{hp:qHp}{l}:muX sl hp [] l=l.flatMap fun x=>(evL sl x).ids:=by cases l<;>rfl
theorem QSO:(∀{sl hp a b x y},rdI sl hp (.app a b x y)=(evL sl x).hd++(evL sl y).hd)∧(∀{sl hp a b x y},muI sl hp (.app a b x y)=(evL sl x).hd)∧(∀{sl hp a b z c ps},rdI sl hp (.buildSl a b z c ps)=ps.flatMap fun p=>(evL sl p.2).ids)∧(∀{sl hp a b z c ps},muI sl hp (.buildSl a b z c ps)=ps.flatMap fun p=>(evL sl p.2).ids)∧(∀{sl hp f l md},rdI sl hp (.call f l md)=l.flatMap fun x=>(evL sl x).rch hp)∧(∀{sl hp f l md},muI sl hp (.call f l md)=muX sl hp md l)∧(∀{sl hp md x l},muX sl hp (.mp::md) (x::l)=(evL sl x).rch hp++muX sl hp md l)∧(∀{sl hp md x l},muX sl hp (.rd::md) (x::l)=(evL sl x).ids++muX sl hp md l)∧(∀{sl hp md x l},muX sl hp (.mu::md) (x::l)=(evL sl x).ids++muX sl hp md l)∧(∀{sl hp md x l},muX sl hp (.ow::md) (x::l)=(evL sl x).ids++muX sl hp md l)∧(∀{sl hp g l},rdI sl hp (.callv g l)=l.flatMap (fun x=>(evL sl x).rch hp)++(YB (evL sl g)).flatMap (D.rch hp))∧(∀{sl hp g l},muI sl hp (.callv g l)=l.flatMap (fun x=>(evL sl x).ids)++(YB (evL sl g)).flatMap D.ids):=⟨rfl,rfl,rfl,rfl,rfl,rfl,rfl,rfl,rfl,rfl,rfl,rfl⟩
abbrev Fn:=String→Nat
abbrev LL:=List LI
def qm(d a:Nat):LI:=⟨some d,.mov (.t a),none⟩
theorem QSP{d a}:qm d a=⟨some d,.mov (.t a),none⟩:=id rfl
def qi(d:Nat)(n:Int):LI:=⟨some d,.mov (.k (.int .i64 n)),none⟩
theorem QSQ{d n}:qi d n=⟨some d,.mov (.k (.int .i64 n)),none⟩:=id rfl
def qb(d:Nat)(b:Bool):LI:=⟨some d,.mov (.k (.bool b)),none⟩
theorem QSR{d b}:qb d b=⟨some d,.mov (.k (.bool b)),none⟩:=id rfl
def qn(d n:Nat):LI:=⟨some d,.mov (.k (.nl n)),none⟩
theorem QSS{d n}:qn d n=⟨some d,.mov (.k (.nl n)),none⟩:=id rfl
def ql(d n a:Nat):LI:=⟨some d,.load false n (.t a),none⟩
theorem QST{d n a}:ql d n a=⟨some d,.load false n (.t a),none⟩:=id rfl
def qL(d n a:Nat):LI:=⟨some d,.load true n (.t a),none⟩
theorem QSU{d n a}:qL d n a=⟨some d,.load true n (.t a),none⟩:=id rfl
def qf(d o a:Nat):LI:=⟨some d,.fad o (.t a),none⟩
theorem QSV{d o a}:qf d o a=⟨some d,.fad o (.t a),none⟩:=id rfl
def qs(n a b:Nat):LI:=⟨none,.store n (.t a) (.t b),none⟩
theorem QSW{n a b}:qs n a b=⟨none,.store n (.t a) (.t b),none⟩:=id rfl
def qd(d s a i:Nat):LI:=⟨some d,.iad s (.t a) (.t i),none⟩
theorem QSX{d s a i}:qd d s a i=⟨some d,.iad s (.t a) (.t i),none⟩:=id rfl
def qo(o:BinOp)(d a b:Nat):LI:=⟨some d,.bin o (.t a) (.t b),none⟩
theorem QSY{o d a b}:qo o d a b=⟨some d,.bin o (.t a) (.t b),none⟩:=id rfl
def qk(o:BinOp)(d a:Nat)(n:Int):LI:=⟨some d,.bin o (.t a) (.k (.int .i64 n)),none⟩
theorem QSZ{o d a n}:qk o d a n=⟨some d,.bin o (.t a) (.k (.int .i64 n)),none⟩:=id rfl
def qx(d a i:Nat):LI:=⟨some d,.ext (.t a) i,none⟩
theorem QS0{d a i}:qx d a i=⟨some d,.ext (.t a) i,none⟩:=id rfl
def qz(d a:Nat):LI:=⟨some d,.len (.t a),none⟩
theorem QS1{d a}:qz d a=⟨some d,.len (.t a),none⟩:=id rfl
def qB(d a:Nat):LI:=⟨some d,.bx (.t a),none⟩
theorem QS2{d a}:qB d a=⟨some d,.bx (.t a),none⟩:=id rfl
def qv(d a:Nat):LI:=⟨some d,.not (.t a),none⟩
theorem QS3{d a}:qv d a=⟨some d,.not (.t a),none⟩:=id rfl
def qp(d s b a c:Nat):LI:=⟨some d,.app s b (.t a) (.t c),none⟩
theorem QS4{d s b a c}:qp d s b a c=⟨some d,.app s b (.t a) (.t c),none⟩:=id rfl
def qP(d c a:Nat):LI:=⟨some d,.pick (.t c) (.t a) (.k (.bool false)),none⟩
theorem QS5{d c a}:qP d c a=⟨some d,.pick (.t c) (.t a) (.k (.bool false)),none⟩:=id rfl
def qQ(d c a:Nat):LI:=⟨some d,.pick (.t c) (.k (.bool true)) (.t a),none⟩
theorem QS6{d c a}:qQ d c a=⟨some d,.pick (.t c) (.k (.bool true)) (.t a),none⟩:=id rfl
def qc(d f:Nat)(l:List X):LI:=⟨some d,.call f l [],none⟩
theorem QS7{d f l}:qc d f l=⟨some d,.call f l [],none⟩:=id rfl
def qu(d:Nat)(z:List D)(l:List (Nat×Nat×X)):LI:=⟨some d,.build z l,none⟩
theorem QS8{d z l}:qu d z l=⟨some d,.build z l,none⟩:=id rfl
def qa(d:Nat)(z:List D):LI:=⟨some d,.alloc z,none⟩
theorem QS9{d z}:qa d z=⟨some d,.alloc z,none⟩:=id rfl
def qg(t:Nat)(w:Bool)(i:LI):LI:=⟨i.dst,i.op,some (t,w)⟩
theorem QTa{t w d op g}:qg t w ⟨d,op,g⟩=⟨d,op,some (t,w)⟩:=id rfl
def qQp(d:Nat)(o:LOp):LI:=⟨some d,o,none⟩
theorem QTb{d:Nat}{o:LOp}:qQp d o=⟨some d,o,none⟩:=id rfl
def qQn(o:LOp):LI:=⟨none,o,none⟩
theorem QTc{o:LOp}:qQn o=⟨none,o,none⟩:=id rfl
def QQ:List LC→LC
 |[]=>.skip
 |[a]=>a
 |a::b::l=>.seq a (QQ (b::l))
theorem QTd{a:LC}:QQ [a]=a:=id rfl
theorem QTe{a b:LC}{l:List LC}:QQ (a::b::l)=.seq a (QQ (b::l)):=id rfl
end Go.Am
