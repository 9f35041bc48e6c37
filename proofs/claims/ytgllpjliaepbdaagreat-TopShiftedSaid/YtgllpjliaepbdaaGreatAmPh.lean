/- Functions under names, and their contracts over a loaded program. -/
import Derived.Test.YtgllpjliaepbdaaGreatAmEv
import Derived.Test.YtgllpjliaepbdaaGreatAmRw
namespace Go.Am
open Go
def tab(l:List (Nat×List Nat))(n:Nat):List Nat:=(lk l n).getD []
def LC.regs:LC→List (List Nat)
 | .seq a b=>a.regs++b.regs
 | .reg _ k=>[k]
 | .dreg _ _ k=>[k]
 | .cond _ a b=>a.regs++b.regs
 | .block _ a=>a.regs
 | .loop _ a=>a.regs
 |_=>[]
def LC.lps:Nat→LC→List (Nat×List Nat)
 |n,.seq a b=>a.lps n++b.lps (n+a.regs.length)
 |n,.cond _ a b=>a.lps n++b.lps (n+a.regs.length)
 |n,.block _ a=>a.lps n
 |n,.loop k a=>(n,k)::a.lps n
 |_,_=>[]
def hOf(o:List Nat)(c:LC):Hints:=⟨o,fun _=>[],fun n=>(c.regs[n]?).getD [],tab (c.lps 0)⟩
def hn(o:List Nat)(r l:List (Nat×List Nat)):Hints:=⟨o,fun _=>[],tab r,tab l⟩
def lkS:List (String×Nat)→String→Nat
 |[],_=>0
 |(s,n)::l,t=>if s==t then n else lkS l t
def lkM(l:List (Nat×List Md))(n:Nat):List Md:=(lk l n).getD []
def wMd(h:Hints)(md:Nat→List Md):Hints:=⟨h.fx,md,h.reg,h.keep⟩
theorem FC.ofO{P:Program}{f:Nat}{fn:Func}{lc:LC}{rs:List RV}{args:List D}{r:D}{H:Hints}{n:Nat}{outs:List Nat}{os':qSl}(hf:P.funcs[f]?=some fn)(hmx:P.follows .mixedOrders=true)
  (hc:fn.body.bind (cC P H fn.ntmps)=some lc) (hrs:JD P fn.results.toList=some rs) (hsm:((fn.name != "runtime.NumGoroutine")&&decide (n≤fn.ntmps)&&decide (H.fx=outs)&&outs.all (fun i=>decide (i<n)))=true)
  (hn:args.length=n) (hok:args.all XH=true) (hW:W P lc (Done rs outs r os') (init args)):FC P f args r os':=by
 obtain⟨body,hb,hc⟩:=QI.1 hc
 simp only[Qi,bne_iff_ne,ne_eq,Qk,Qr] at hsm
 exact FC.of hf (by simpa using hsm.1.1.1) hb hmx hsm.1.2 hc hrs (by omega) (fun i hi=>by have:=hsm.2 i hi;omega) hok (JR _ (fun _ _ h=>h.any) hW)
theorem FC.of'{P:Program}{f:Nat}{fn:Func}{lc:LC}{rs:List RV}{args:List D}{r:D}{H:Hints}{n:Nat}(hf:P.funcs[f]?=some fn)(hmx:P.follows .mixedOrders=true)
  (hc:fn.body.bind (cC P H fn.ntmps)=some lc) (hrs:JD P fn.results.toList=some rs) (hsm:((fn.name != "runtime.NumGoroutine")&&decide (n≤fn.ntmps)&&H.fx.isEmpty)=true)
  (hn:args.length=n) (hok:args.all XH=true) (hW:W P lc (Done rs [] r []) (init args)):FC P f args r []:=by
 obtain⟨body,hb,hc⟩:=QI.1 hc
 simp only[Qi,bne_iff_ne,ne_eq,Qk,List.isEmpty_iff] at hsm
 exact FC.of hf (by simpa using hsm.1.1) hb hmx hsm.2 hc hrs (by omega) (by simp) hok (JR _ (fun _ _ h=>h.any) hW)
theorem FC.ofZ{P:Program}{f:Nat}{fn:Func}{lc:LC}{rs:List RV}{args:List D}{r:D}{H:Hints}{n:Nat}{outs:List Nat}{os':qSl}(hf:P.funcs[f]?=some fn)(hmx:P.follows .mixedOrders=true)
  (hc:fn.body.bind (cC P H fn.ntmps)=some lc) (hrs:JD P fn.results.toList=some rs) (hsm:((fn.name != "runtime.NumGoroutine")&&decide (n≤fn.ntmps)&&decide (H.fx=outs)&&outs.all (fun i=>decide (i<n)))=true)
  (hn:args.length=n) (hok:args.all XH=true) (hW:W P lc (DoneZ rs outs r os') (init args)):FC P f args r os':=by
 obtain⟨body,hb,hc⟩:=QI.1 hc
 simp only[Qi,bne_iff_ne,ne_eq,Qk,Qr] at hsm
 exact FC.of hf (by simpa using hsm.1.1.1) hb hmx hsm.1.2 hc hrs (by omega) (fun i hi=>by have:=hsm.2 i hi;omega) hok (JR _ (fun _ _ h=>h.any) hW)
def gt{α:Type}[Inhabited α](l:List α)(j:Int):α:=l.getD j.toNat default
theorem Xc{α:Type}[Inhabited α]{l:List α}{i:Nat}(h:i<l.length):gt l (i:Int)=l[i]:=by simp [gt,h]
theorem Qcm{α:Type}[Inhabited α]{l:List α}{j:Int}(h0:0≤j)(h:j<l.length):l[j.toNat]?=some (gt l j):=by
 have:j.toNat<l.length:=by omega
 simp [gt,this]
theorem Zp{l:List Int}{j:Int}(h0:0≤j)(h:j<l.length):(QR l)[j.toNat]?=some (.int .i64 (gt l j)):=by
 rw[QRO,Qcm h0 h];rfl
theorem YI{l:List Int}{i:Nat}(h:i<l.length):(QR l)[i]?=some (.int .i64 (gt l i)):=by
 have:=Zp (l:=l) (j:=i) (by omega) (by omega)
 simpa using this
structure E where
 t:Int
 f:Int
 o:Int
 deriving DecidableEq,Inhabited
def edD(x:E):D:=.agg [.int .i64 x.t,.int .i64 x.f,.int .i64 x.o]
def eds(l:List E):List D:=l.map edD
theorem QQ9(l:List E):(eds l).length=l.length:=by simp [eds]
theorem QRa(l:List E)(a b c:Int):eds l++[.agg [.int .i64 a,.int .i64 b,.int .i64 c]]=eds (l++[⟨a,b,c⟩]):=by simp [eds,edD]
theorem QRb(l m:List E):eds l++eds m=eds (l++m):=by simp [eds]
theorem QRc(l m:List Int):QR l++QR m=QR (l++m):=by simp [QR]
theorem QRd(l:List E):(eds l).all D.flatE=true:=by simp [eds,edD,D.flatE,D.flat0]
theorem Qgm{l:List E}{j:Int}(h0:0≤j)(h:j<l.length):(eds l)[j.toNat]?=some (.agg [.int .i64 (gt l j).t,.int .i64 (gt l j).f,.int .i64 (gt l j).o]):=by
 unfold eds
 rw[List.getElem?_map,Qcm h0 h];rfl
theorem Qcn{l:List E}{i:Nat}(h:i<l.length):(eds l)[i]?=some (.agg [.int .i64 (gt l i).t,.int .i64 (gt l i).f,.int .i64 (gt l i).o]):=by
 have:=Qgm (l:=l) (j:=i) (by omega) (by omega)
 simpa using this
theorem QRe{l:List Int}{i:Nat}{x:Int}:(QR l).set i (.int .i64 x)=QR (l.set i x):=by simp [QR,List.map_set]
theorem QRf{l:List E}{i:Nat}{a b c:Int}:(eds l).set i (.agg [.int .i64 a,.int .i64 b,.int .i64 c])=eds (l.set i ⟨a,b,c⟩):=by simp [eds,List.map_set,edD]
theorem QRg{n:Nat}{x:Int}:List.replicate n (.int .i64 x)=QR (List.replicate n x):=by simp [QR]
theorem QRh{n:Nat}{a b c:Int}:List.replicate n (.agg [.int .i64 a,.int .i64 b,.int .i64 c])=eds (List.replicate n ⟨a,b,c⟩):=by simp [eds,edD]
theorem QRi{l:List Int}{n:Nat}:(QR l).take n=QR (l.take n):=by simp [QR,List.map_take]
theorem QRj{l:List Int}{n:Nat}:(QR l).drop n=QR (l.drop n):=by simp [QR,List.map_drop]
theorem QRk{l:List E}{n:Nat}:(eds l).take n=eds (l.take n):=by simp [eds,List.map_take]
theorem QRl{l:List E}{n:Nat}:(eds l).drop n=eds (l.drop n):=by simp [eds,List.map_drop]
def Yp:D→Bool
 | .int ..| .bool _| .lst ..| .ref _=>true
 |_=>false
def QaZ:List D→List D→Prop
 |[],[]=>True
 |a::l,b::l'=>(a=b∨∃n m,a=.nl n∧(b=.lst m []∨b=.arr m []))∧QaZ l l'
 |_,_=>False
theorem Qos{w:World}{I:Nat→Prop}:∀{a b:List D}{vs:List Value}{os:List Nat},QaZ a b→DRs w I a vs os→DRs w I b vs os
 |[],[],_,_,_,h=>h
 |[],_::_,_,_,h,_=>h.elim
 |_::_,[],_,_,h,_=>h.elim
 |x::a,y::b,vs,os,h,k=>by
  obtain⟨h1,h2⟩:=h
  simp only[DRs] at k ⊢
  obtain⟨v,vs',o,o',rfl,rfl,k1,k2⟩:=k
  refine⟨v,vs',o,o',rfl,rfl,?_,Qos h2 k2⟩
  rcases h1 with rfl|⟨n,m,rfl,rfl|rfl⟩
  ·exact k1
  ·simp only[DR] at k1 ⊢
   exact⟨k1.2,by simp [QW],.inl ⟨⟨_,k1.1⟩,trivial⟩⟩
  ·simp only[DR] at k1 ⊢
   exact⟨by simp [QW],.inl ⟨k1.1,trivial,k1.2⟩⟩
theorem FC.nils{P:Program}{f:Nat}{a b:List D}{r:D}{outs:qSl}(h:FC P f b r outs)(k:QaZ a b):FC P f a r outs:=
 ⟨h.1,fun w I vs os h1 h2 h3 h4=>h.2 w I vs os h1 h2 h3 (Qos k h4)⟩
theorem Qgn{cs:List D}(h:cs.all Yp=true)(hp:qHp):Q1 (Xv hp) cs=some cs:=by
 induction cs with
 |nil=>rfl
 |cons c cs ih=>
  simp only[List.all_cons,Qi] at h
  have:Xv hp c=some c:=by cases c<;>simp [Yp] at h<;>rfl
  simp only[Q1,this,ih h.2]
theorem Qgo{cs:List D}(h:cs.all Yp=true)(hp:qHp):Q1 (Xz hp) cs=some cs:=by
 induction cs with
 |nil=>rfl
 |cons c cs ih=>
  simp only[List.all_cons,Qi] at h
  have:Xz hp c=some c:=by cases c<;>simp [Yp] at h<;>rfl
  simp only[Q1,this,ih h.2]
theorem Qgp{cs:List D}(h:cs.all Yp=true)(hp:qHp)(n:NS):X1 (XB hp) n cs=(cs,n):=by
 induction cs generalizing n with
 |nil=>rfl
 |cons c cs ih=>
  simp only[List.all_cons,Qi] at h
  have:∀n,XB hp n c=(c,n):=by intro n;cases c<;>simp [Yp] at h<;>rfl
  simp only[X1,this,ih h.2]
theorem Qbz{cs:List D}(h:cs.all Yp=true):cs.all X5=true:=by
 rw[Qr] at*
 intro c hc
 have:=h c hc
 cases c<;>simp [Yp] at this<;>rfl
theorem QdE{t:Bool}{a b:Kp}(h:t=false→a.p)(k:t=true→b.p):@JU (some (.bool (!t))) a b:=by
 cases t
 ·exact⟨fun _=>h rfl,fun e=>absurd e (by simp)⟩
 ·exact⟨fun e=>absurd e (by simp),fun _=>k rfl⟩
theorem QRm{α:Type}{c:Prop}[Decidable c]{a b:α}(h:c):(if c then a else b)=a:=if_pos h
theorem QRn{k:IntKind}{x:Int}:Yp (.int k x)=true:=id rfl
theorem QRo{b:Bool}:Yp (.bool b)=true:=id rfl
theorem QRp{n:Nat}{l:List D}:Yp (.lst n l)=true:=id rfl
theorem QRq{l:List D}:Yp (.ref l)=true:=id rfl
attribute [go_sem] QRn QRo QRp QRq Int.natCast_nonneg decide_true decide_false not_true_eq_false not_false_eq_true Zp QQ9 QRa QRb QRc QRd Qgm QRe QRf QRg QRh QRi QRj QRk QRl Int.toNat_natCast List.length_append List.length_set List.length_replicate QoA
attribute [go_sem] List.getElem?_cons_zero List.getElem?_cons_succ List.getElem?_nil
attribute [go_sem low] QRm YI Qcn
end Go.Am
