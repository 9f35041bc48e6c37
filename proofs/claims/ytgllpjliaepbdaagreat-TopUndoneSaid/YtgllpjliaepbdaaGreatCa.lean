/- Contracts and what they rest on: Ca. -/
import Derived.Test.YtgllpjliaepbdaaGreatProg
import Derived.KernelRfl
import Derived.Test.YtgllpjliaepbdaaGreatAmPi
import Derived.Sort.Grow
set_option linter.unusedVariables false
set_option linter.unusedSimpArgs false
set_option linter.unnecessarySimpa false
open Go Go.Proofs Go.Sort
namespace Go.Am
set_option maxRecDepth 100000
attribute [local irreducible] W
def mdT(f i:Nat):List Md:=match i with
 |69|472|433=>[.mp]
 |133=>[.rd,.rd,.ow,.rd]
 |135=>[.rd,.rd,.ow,.rd,.rd]
 |147=>[.rd,.mp,.rd]
 |148|351=>if i==148 then [.rd,.mp] else [.mp,.rd]
 |252|422=>[.mu]
 |253=>[.ow]
 |403=>[.mp,.rd,.rd]
 |1000000=>if [134,133,135,147,148].contains f then [.rd] else []
 |2000161=>if f==135 then [.rd] else []
 |2000068=>if f==148 then [.rd] else []
 |_=>[]
theorem tmx:Tryz.prog.follows .mixedOrders=true:=by kernel_rfl
def aiL:List (Nat×Nat):=[(111,3),(112,3),(172,2),(173,2),(270,2),(271,2),(280,2),(281,2),(282,4),(283,4),(284,5),(285,5),(329,2),(330,2)]
def aiT(P:Program)(t:TypeId):Option Nat:=match lk aiL t with
 |some n=>some n
 |none=>Ze P t
theorem Qbs:aiT Tryz.prog=Ze Tryz.prog:=by
 have h:aiL.all (fun x=>decide (some x.2=Ze Tryz.prog x.1))=true:=by kernel_rfl
 funext t
 unfold aiT
 split
 ·rename_i n e
  exact of_decide_eq_true (Qs.1 h _ (J3 e))
 ·rfl
abbrev FT(f:Nat)(args:List D)(r:D):Prop:=FC Tryz.prog f args r []
section
variable {f:Nat} {args:List D} {r:D} {os:List (Nat×D)}
theorem fo(L:List CsL)(hW:WF Tryz.prog (fnC Tryz.prog mdT (aiT Tryz.prog) L f) r os args)(h:okG Tryz.prog mdT L f args.length=true:=by kernel_rfl)(hok:args.all XK=true:=by first|rfl|(simp only[List.all_cons,List.all_nil,Bool.and_true,ru1,st1];first|done|rfl)):FC Tryz.prog f args r os:=
 @fcO Tryz.prog mdT f args r os tmx (Qbm Qbs h).1 hok (by unfold fnC at hW;rw[(Qbm Qbs h).2] at hW;exact hW)
theorem foF(L:List CsL)(hW:WFF Tryz.prog (fnC Tryz.prog mdT (aiT Tryz.prog) L f) r os args)(h:okG Tryz.prog mdT L f args.length=true:=by kernel_rfl)(hok:args.all XK=true:=by first|rfl|(simp only[List.all_cons,List.all_nil,Bool.and_true,ru1,st1];first|done|rfl)):FC Tryz.prog f args r os:=
 @fcF Tryz.prog mdT f args r os tmx (Qbm Qbs h).1 hok (by unfold fnC at hW;rw[(Qbm Qbs h).2] at hW;exact hW)
theorem foZ(L:List CsL)(hW:WFZ Tryz.prog (fnC Tryz.prog mdT (aiT Tryz.prog) L f) r os args)(h:okG Tryz.prog mdT L f args.length=true:=by kernel_rfl)(hok:args.all XK=true:=by first|rfl|(simp only[List.all_cons,List.all_nil,Bool.and_true,ru1,st1];first|done|rfl)):FC Tryz.prog f args r os:=
 @fcZ Tryz.prog mdT f args r os tmx (Qbm Qbs h).1 hok (by unfold fnC at hW;rw[(Qbm Qbs h).2] at hW;exact hW)
end
section
variable (P:Program) (F:String→Nat)
def Yx(n:Int)(x:E):Bool:=decide (0≤x.t∧x.t≤99)&&decide (0≤x.f∧x.f≤n-1)&&decide (0≤x.o∧x.o≤n-1)
def idx{α:Type}(p:α→Bool):List α→Int→Int
 |[],_=> -1
 |a::l,i=>if p a then i else idx p l (i+1)
structure _root_.Go.Am.G where
 n:List Int
 e:List E
 deriving DecidableEq,Inhabited
def gD(g:G):D:=.agg [.lst 1 (QR g.n),.lst 3 (eds g.e)]
def gA(g:G):D:=.agg [.arr 1 (QR g.n),.arr 3 (eds g.e)]
def okN(x:Int):Bool:=decide (0≤x∧x≤99)
def QZ(g:G):Int:=if 40<g.n.length∨80<g.e.length then 3 else if g.n.all okN&&g.e.all (Yx g.n.length) then 0 else 6
theorem _root_.Go.Am.gt_mem{α:Type}[Inhabited α]{l:List α}{j:Int}(h0:0≤j)(h:j<l.length):gt l j∈l:=List.mem_of_getElem? (Qbn h0 h)
end
section
variable {P:Program} {F:String→Nat} {α:Type}
theorem Qdm[Inhabited α](p:α→Bool)(l:List α)(i:Nat)(h:i<l.length):idx p (l.drop i) i=if p (gt l i) then (i:Int) else idx p (l.drop (i+1)) ((i+1:Nat):Int):=by
 rw[List.drop_eq_getElem_cons h,QV h];rfl
theorem Qb5(p:α→Bool):∀(l:List α)(i:Int),0≤i→(decide (0≤idx p l i))=l.any p
 |[],i,h=>by simp [idx]
 |a::l,i,h=>by
  simp only[idx,List.any_cons]
  split
  ·rename_i ha;simp [ha,h]
  ·rename_i ha;rw[Qb5 p l (i+1) (by omega)];simp [ha]
end
def leO(x:Int):Option Int→Bool
 |some q=>decide (x≤q)
 |none=>false
def XN(n:Int):Option Int→List Int→Int
 |_,[]=>0
 |p,x::l=>if 0≤x∧x≤n-1 then (if leO x p=true then 12 else XN n (some x) l) else 6
def QY(f:Int)(n:Nat):List Int:=(List.range n).map fun i:Nat=>f+(i:Int)
structure Mo where
 n:List Int
 e:List Int
 deriving DecidableEq,Inhabited
def mD(m:Mo):D:=.agg [.lst 1 (QR m.n),.lst 1 (QR m.e)]
def mA(m:Mo):D:=.agg [.arr 1 (QR m.n),.arr 1 (QR m.e)]
def few(g:G):Bool:=decide (g.n.length≤45)&&decide (g.e.length≤90)
section
variable {P:Program} {F:String→Nat} {α:Type}
theorem Z3[Inhabited α]{l:List α}{i:Nat}(h:i<l.length):l.drop i=gt l i::l.drop (i+1):=by
 rw[List.drop_eq_getElem_cons h,QV h]
theorem Xm[Inhabited α]{l:List α}{i:Nat}(h:i<l.length):l.take (i+1)=l.take i++[gt l i]:=by
 rw[List.take_succ_eq_append_getElem h,QV h]
theorem Qdn(f:Int)(n:Nat):QY f (n+1)=QY f n++[f+n]:=by simp [QY,List.range_succ]
theorem Yp(f:Int)(n:Nat):(QY f n).length=n:=by simp [QY]
theorem Qji(f:Int):QY f 0=[]:=by simp [QY]
def JB(l:List Int)(i:Nat):Option Int:=if i=0 then none else some (gt l ((i:Int)-1))
theorem Qq3(l:List Int)(i:Nat):JB l (i+1)=some (gt l i):=by
 simp only[JB];rw[if_neg (by omega)];congr 2;omega
theorem Qjj(n:Int)(l:List Int)(i:Nat)(h:i<l.length):XN n (JB l i) (l.drop i)=
  if 0≤gt l i∧gt l i≤n-1 then (if 0<i∧gt l i≤gt l ((i:Int)-1) then 12 else XN n (JB l (i+1)) (l.drop (i+1))) else 6:=by
 rw[Z3 h,Qq3]
 simp only[XN,JB]
 by_cases h0:i=0
 ·simp [h0,leO]
 ·simp [h0,leO,Nat.pos_of_ne_zero h0]
theorem eqE(a b:E):a=b↔a.t=b.t∧a.f=b.f∧a.o=b.o:=by
 cases a;cases b;simp
theorem Qjk(n:Int):∀(l:List Int)(p:Option Int),XN n p l=0→(∀x,x∈l→0≤x∧x≤n-1)∧(∀q,p=some q→∀x,x∈l→q<x)∧l.Pairwise (·<·)
 |[],p,_=>by simp
 |x::l,p,h=>by
  simp only[XN] at h
  split at h
  case isFalse=>simp at h
  rename_i hx
  by_cases hp:leO x p=true
  ·rw[if_pos hp] at h;simp at h
  ·rw[if_neg hp] at h
   obtain⟨h1,h2,h3⟩:=Qjk n l (some x) h
   refine⟨by simpa using ⟨hx,h1⟩,?_,?_⟩
   ·rintro q rfl y hy
    simp only[leO,Ql] at hp
    rcases Qh.1 hy with rfl|hy
    ·omega
    ·have:=h2 x rfl y hy;omega
   ·simpa using ⟨fun y hy=>h2 x rfl y hy,h3⟩
end
def u8s(l:List Int):List D:=l.map fun x=>.int .u8 x
def trs(l:List E):List D:=l.map fun x=>.agg [.int .u8 x.t,.int .u8 x.f,.int .u8 x.o]
theorem Qjl(l:List Int):(u8s l).length=l.length:=by simp [u8s]
theorem QfL(l:List E):(trs l).length=l.length:=by simp [trs]
theorem Qq4{l:List Int}{i:Nat}(h:i<l.length):(u8s l)[i]?=some (.int .u8 (gt l (i:Int))):=by
 rw[QV h];simp [u8s,h]
theorem Qq5{l:List E}{i:Nat}(h:i<l.length):(trs l)[i]?=some (.agg [.int .u8 (gt l (i:Int)).t,.int .u8 (gt l (i:Int)).f,.int .u8 (gt l (i:Int)).o]):=by
 rw[QV h];simp [trs,h]
attribute [go_sem] Qjl QfL Qq4 Qq5
structure Dr where
 n:List Int
 e:List E
 deriving DecidableEq,Inhabited
def drD(x:Dr):D:=.agg [.lst 1 (u8s x.n),.lst 3 (trs x.e)]
def XA(x:Int):Prop:=0≤x∧x≤255
def Dr.ok(x:Dr):Prop:=(∀v∈x.n,XA v)∧∀v∈x.e,XA v.t∧XA v.f∧XA v.o
theorem Jj{z b:Nat}{e:Sh}{l:List Sh}{ds:List D}(h:HasShs (.slc z b e::l) ds):∃a b',ds=a::b'∧Xx (.slc z b e) a∧HasShs l b':=by simpa only[HasShs] using h
theorem Qb6{l':List Sh}{l:List Sh}{ds:List D}(h:HasShs (.cat l'::l) ds):∃a b,ds=a++b∧HasShs l' a∧HasShs l b:=by simpa only[HasShs] using h
theorem Qdo{ds:List D}(h:HasShs [] ds):ds=[]:=by simpa only[HasShs] using h
def Mo.sm(m:Mo):Prop:=m.n.length≤QS∧m.e.length≤QS
def YY:Sh:=.int .u8
def QaG:Sh:=.slc 1 1 YY
def Jk:Sh:=.cat [YY,YY,YY]
def Qdp:Sh:=.cat [QaG,.slc 3 3 Jk]
theorem Qjm{x:D}(h:Xx YY x):∃n:Int,x=.int .u8 n∧XA n:=by
 simp only[YY,Xx] at h
 obtain⟨n,rfl,h1,h2⟩:=h
 exact⟨n,rfl,h1,h2⟩
theorem Qjn:∀{xs:List D},(∀y∈xs,Xx YY y)→∃l:List Int,xs=u8s l∧∀v∈l,XA v
 |[],_=>⟨[],rfl,by simp⟩
 |x::xs,h=>by
  obtain⟨l,rfl,hl⟩:=Qjn (xs:=xs) fun y hy=>h y (by simp [hy])
  obtain⟨n,rfl,hn⟩:=Qjm (h x (by simp))
  exact⟨n::l,rfl,by simpa [hn] using hl⟩
theorem QfM{x:D}(h:Xx QaG x):∃l:List Int,x=.lst 1 (u8s l)∧(∀v∈l,XA v)∧l.length≤QS:=by
 simp only[QaG,Xx] at h
 obtain⟨xs,rfl,h1,h2⟩:=h
 obtain⟨l,rfl,hl⟩:=Qjn h2
 refine⟨l,rfl,hl,?_⟩
 rw[Qjl] at h1
 unfold reachBytes at h1
 unfold QS
 omega
theorem Qq6{x:D}(h:Xx Jk x):∃e:E,x=.agg [.int .u8 e.t,.int .u8 e.f,.int .u8 e.o]∧XA e.t∧XA e.f∧XA e.o:=by
 simp only[Jk,Xx] at h
 obtain⟨ds,rfl,h⟩:=h
 simp only[YY,HasShs,Xx] at h
 obtain⟨_,_,rfl,⟨a,rfl,a1,a2⟩,_,_,rfl,⟨b,rfl,b1,b2⟩,_,_,rfl,⟨c,rfl,c1,c2⟩,rfl⟩:=h
 exact⟨⟨a,b,c⟩,rfl,⟨a1,a2⟩,⟨b1,b2⟩,⟨c1,c2⟩⟩
theorem QfN:∀{xs:List D},(∀y∈xs,Xx Jk y)→∃l:List E,xs=trs l∧∀v∈l,XA v.t∧XA v.f∧XA v.o
 |[],_=>⟨[],rfl,by simp⟩
 |x::xs,h=>by
  obtain⟨l,rfl,hl⟩:=QfN (xs:=xs) fun y hy=>h y (by simp [hy])
  obtain⟨n,rfl,hn⟩:=Qq6 (h x (by simp))
  refine⟨n::l,rfl,fun v hv=>?_⟩
  simp only[Qh] at hv
  rcases hv with rfl|hv
  ·exact hn
  ·exact hl v hv
theorem Qq7{x:D}(h:Xx Qdp x):∃g:Dr,x=drD g∧g.ok∧g.n.length≤QS∧g.e.length≤QS:=by
 simp only[Qdp,Xx] at h
 obtain⟨ds,rfl,h⟩:=h
 have h':∃a b,ds=a::b∧Xx QaG a∧HasShs [.slc 3 3 Jk] b:=by simpa only[QaG,HasShs] using h
 obtain⟨a,_,rfl,h1,h'⟩:=h'
 obtain⟨l,rfl,hl,hl2⟩:=QfM h1
 simp only[HasShs,Xx] at h'
 obtain⟨_,_,rfl,⟨xs,rfl,hb,h3⟩,rfl⟩:=h'
 obtain⟨es,rfl,he⟩:=QfN h3
 refine⟨⟨l,es⟩,rfl,⟨hl,he⟩,hl2,?_⟩
 rw[QfL] at hb
 unfold reachBytes at hb
 simp only[QS]
 omega
section
variable {P:Program} {F:String→Nat} {α:Type}
theorem Qjo{x m:Int}(hx:0≤x)(hm:0<m):0≤x.tmod m∧x.tmod m<m:=⟨Int.tmod_nonneg _ hx,Int.tmod_lt_of_pos _ hm⟩
theorem XZ{g:G}(h:QZ g=0):g.n.length≤40∧g.e.length≤80∧(∀x,x∈g.n→okN x=true)∧∀x,x∈g.e→Yx g.n.length x=true:=by
 unfold QZ at h
 split at h
 ·simp at h
 ·rename_i h1
  split at h
  ·rename_i h2
   simp only[Qk,Qs] at h2
   exact⟨by omega,by omega,h2.1,h2.2⟩
  ·simp at h
theorem Qbt{n:Int}{x:E}(h:Yx n x=true):(0≤x.t∧x.t≤99)∧(0≤x.f∧x.f<n)∧(0≤x.o∧x.o<n):=by
 simp only[Yx,Qk,Ql] at h
 omega
theorem JC{n:Int}{x:E}(h1:0≤x.t∧x.t≤99)(h2:0≤x.f∧x.f<n)(h3:0≤x.o∧x.o<n):Yx n x=true:=by
 simp only[Yx,Qk,Ql]
 omega
end
def YL(bn:List Int):List Int→List Int→Int
 |k::ms,t::aSq=>if 0≤k∧k<bn.length then (if gt bn k=t then YL bn ms aSq else 13) else 6
 |_,_=>0
def Y8(be:List E)(mn:List Int):List Int→List E→Int
 |k::ms,x::aSq=>if 0≤k∧k<be.length then (if x.t=(gt be k).t then (if gt mn x.f=(gt be k).f∧gt mn x.o=(gt be k).o then Y8 be mn ms aSq else 11) else 13) else 6
 |_,_=>0
def Yc(a b:G)(m:Mo):Int:=
 if QZ a≠0 then QZ a else if QZ b≠0 then QZ b else if m.n.length≠a.n.length∨m.e.length≠a.e.length then 20
 else if YL b.n m.n a.n≠0 then YL b.n m.n a.n else Y8 b.e m.n m.e a.e
def thr(l by_:List Int):List Int:=l.map fun x=>gt by_ x
def Jl(m n:Mo):Mo:=⟨thr m.n n.n,thr m.e n.e⟩
def JD(m:Mo)(n:Int):Bool:=decide ((m.n.length:Int)+m.e.length≤n)
section
variable {P:Program} {F:String→Nat} {α:Type}
theorem Qjp{bn ms aSq:List Int}{i:Nat}(h1:i<ms.length)(h2:i<aSq.length):YL bn (ms.drop i) (aSq.drop i)=
  if 0≤gt ms i∧gt ms i<bn.length then (if gt bn (gt ms i)=gt aSq i then YL bn (ms.drop (i+1)) (aSq.drop (i+1)) else 13) else 6:=by
 rw[Z3 h1,Z3 h2,YL]
theorem Qjq{be:List E}{mn ms:List Int}{aSq:List E}{i:Nat}(h1:i<ms.length)(h2:i<aSq.length):Y8 be mn (ms.drop i) (aSq.drop i)=
  if 0≤gt ms i∧gt ms i<be.length then (if (gt aSq i).t=(gt be (gt ms i)).t then (if gt mn (gt aSq i).f=(gt be (gt ms i)).f∧gt mn (gt aSq i).o=(gt be (gt ms i)).o then Y8 be mn (ms.drop (i+1)) (aSq.drop (i+1)) else 11) else 13) else 6:=by
 rw[Z3 h1,Z3 h2,Y8]
theorem Qjr{bn ms aSq:List Int}{i:Nat}(h1:ms.length≤i):YL bn (ms.drop i) (aSq.drop i)=0:=by
 rw[QD h1];rfl
theorem Qjs{be:List E}{mn ms:List Int}{aSq:List E}{i:Nat}(h1:ms.length≤i):Y8 be mn (ms.drop i) (aSq.drop i)=0:=by
 rw[QD h1];cases aSq.drop i<;>rfl
theorem X4(l b:List Int):(thr l b).length=l.length:=by simp [thr]
theorem QfO{l b:List Int}{i:Nat}(h:i<l.length):thr (l.take (i+1)) b=thr (l.take i) b++[gt b (gt l i)]:=by
 rw[Xm h];simp [thr]
end
def inI(l:List Int)(x:Int):List Int:=match l with
 |[]=>[x]
 |y::l=>if x<y then x::y::l else y::inI l x
theorem QfP:∀(l:List Int)(x:Int),(inI l x).Perm (x::l)
 |[],x=>.refl _
 |y::l,x=>by
  simp only[inI]
  split
  ·exact .refl _
  ·exact ((QfP l x).cons y).trans (.swap x y l)
theorem Qjt:∀{l:List Int}{x:Int},l.Pairwise (·≤·)→(inI l x).Pairwise (·≤·)
 |[],x,_=>by simp [inI]
 |y::l,x,h=>by
  rw[List.pairwise_cons] at h
  simp only[inI]
  split
  ·rename_i hx
   rw[List.pairwise_cons,List.pairwise_cons]
   refine⟨fun z hz=>?_,h⟩
   rcases Qh.1 hz with rfl|hz
   ·omega
   ·have:=h.1 z hz;omega
  ·rename_i hx
   rw[List.pairwise_cons]
   refine⟨fun z hz=>?_,Qjt h.2⟩
   have hz:=(QfP l x).mem_iff.1 hz
   rcases Qh.1 hz with rfl|hz
   ·omega
   ·exact h.1 z hz
def srt:List Int→List Int
 |[]=>[]
 |x::l=>inI (srt l) x
theorem ZO:∀l:List Int,(srt l).Perm l
 |[]=>.refl _
 |x::l=>(QfP _ x).trans ((ZO l).cons x)
theorem X6(l:List Int):(srt l).length=l.length:=(ZO l).length_eq
theorem Qbu:∀l:List Int,(srt l).Pairwise (·≤·)
 |[]=>.nil
 |x::l=>Qjt (Qbu l)
theorem QfQ:∀{a b:List Int},a.Pairwise (·≤·)→b.Pairwise (·≤·)→a.Perm b→a=b
 |[],b,_,_,h=>(List.nil_perm.1 h).symm
 |a,[],_,_,h=>List.perm_nil.1 h
 |x::a,y::b,h1,h2,h=>by
  rw[List.pairwise_cons] at h1 h2
  have e:x=y:=by
   have hx:=h.mem_iff.1 (List.mem_cons_self (a:=x))
   have hy:=h.mem_iff.2 (List.mem_cons_self (a:=y))
   rcases Qh.1 hx with e|hx
   ·exact e
   ·rcases Qh.1 hy with e|hy
    ·exact e.symm
    ·have:=h2.1 x hx
     have:=h1.1 y hy
     omega
  subst e
  rw[QfQ h1.2 h2.2 (List.perm_cons x|>.1 h)]
theorem Qq8(l:List Int):srt l=l.mergeSort fun x y=>decide (x≤y):=by
 have:=List.pairwise_mergeSort (le:=fun x y:Int=>decide (x≤y)) (fun a b c h1 h2=>by simp at*;omega) (fun a b=>by simp;omega) l
 exact QfQ (Qbu l) (by simpa using this) ((ZO l).trans (List.mergeSort_perm _ _).symm)
theorem QfR{w:World}{I:Nat→Prop}:∀{l:List Int}{us:List Value},PE w I 1 (QR l) us→us=l.map (Value.int .i64)
 |[],us,h=>by simpa [QR,PE] using h
 |x::l,us,h=>by
  simp only[QR,List.map_cons,PE,P1] at h
  obtain⟨u,us',rfl,_,rfl,h2⟩:=h
  rw[QfR (l:=l) h2];rfl
theorem QfS{w:World}{I:Nat→Prop}:∀(l:List Int),PE w I 1 (QR l) (l.map (Value.int .i64))
 |[]=>by simp [QR,PE]
 |x::l=>by
  simp only[QR,List.map_cons,PE,P1]
  exact⟨[.int .i64 x],l.map (Value.int .i64),rfl,rfl,rfl,QfS l⟩
theorem Qq9{w:World}{b n:Nat}{cur:Array Value}{e:TypeId}{d:Array Int}{os:Array Obj}(hg:w.heap[b]?=some (.cells cur e (0,0)))(hd:d.size≤cur.size):
  Stp (·=b) w (grow (putRow (Value.int .i64) (Sort.ahead w n) b 0 d) os)∧∃c,(grow (putRow (Value.int .i64) (Sort.ahead w n) b 0 d) os).heap[b]?=some (.cells c e (0,0))∧c.size=cur.size∧∀j,j<d.size→c[j]?=some (.int .i64 d[j]!):=by
 have hb:b<w.heap.size:=(QB.1 hg).1
 have hold:∀k,k<w.heap.size→(grow (putRow (Value.int .i64) (Sort.ahead w n) b 0 d) os).heap[k]?=if b=k then (w.heap[k]?).map (onCells (putCells (Value.int .i64) 0 d)) else w.heap[k]?:=fun k hk=>by
  rw[heap_grow_old _ _ (by simpa [Sort.ahead] using hk)]
  simp only[putRow,mapBlock,Sort.ahead,Array.getElem?_modify]
 have hnew:(grow (putRow (Value.int .i64) (Sort.ahead w n) b 0 d) os).heap[b]?=some (.cells (putCells (Value.int .i64) 0 d cur) e (0,0)):=by
  rw[hold b hb,if_pos rfl,hg];rfl
 refine⟨⟨rfl,rfl,rfl,by simp [Sort.ahead],fun k hk hne=>by rw[hold k hk,if_neg (fun h=>hne h.symm)],fun k c e' fr hk=>?_⟩,_,hnew,by simp [putCells],fun j hj=>?_⟩
 ·have hk2:k<w.heap.size:=(QB.1 hk).1
  rw[hold k hk2]
  by_cases h:b=k
  ·subst h
   rw[if_pos rfl,hk]
   exact⟨_,rfl,by simp [putCells]⟩
  ·rw[if_neg h,hk]
   exact⟨c,rfl,rfl⟩
 ·simp only[putCells,Array.getElem?_mapIdx]
  rw[Array.getElem?_eq_getElem (by omega)]
  simp only[Option.map_some]
  rw[if_pos (by omega)]
  rfl
theorem Qra{P:Program}{f:Nat}(hen:∀(vs:Array Value)(w:World),(callFunc f vs).run P w=.ok (.enter f vs) w)
  (h1:∀(blk off cap:Nat)(zs:List Int)(w:World),Holds (Value.int .i64) w blk off zs.toArray→blk<w.heap.size→zs.length<4611686018427387904→Calls P f #[.slice (some ⟨blk,off,none⟩) zs.length cap] w fun e w'=>
   e=.returned (.tuple #[])∧∃n os,w'=grow (putRow (Value.int .i64) (Sort.ahead w n) blk off (zs.mergeSort fun x y=>decide (x≤y)).toArray) os)
  (h2:∀(p:Option Addr)(cap:Nat)(w:World),Calls P f #[.slice p 0 cap] w fun e w'=>e=.returned (.tuple #[])∧w'=w) (l:List Int) (hl:l.length≤QS):
  FC P f [.arr 1 (QR l)] (.tup []) [(0,.arr 1 (QR (srt l)))]:=by
 refine⟨hen,fun w I vs os hI hnd hos hdr=>?_⟩
 simp only[DRs] at hdr
 obtain⟨v,vs',o,o',rfl,rfl,hd,rfl,rfl⟩:=hdr
 simp only[DR] at hd
 obtain⟨hmax,⟨rfl,hnil,rfl⟩|⟨b,cap,cur,e,us,rfl,rfl,hg,c1,c2,c3,hM,hP⟩⟩:=hd
 ·have hl0:l=[]:=by simpa [QR] using hnil
  subst hl0
  refine (h2 none 0 w).mono ?_
  rintro e w' ⟨rfl,rfl⟩
  refine⟨_,[],rfl,Stp.refl _ _,by simp,by simp,?_⟩
  simp only[List.map_cons,List.map_nil,DRs,DR]
  exact⟨_,_,[],[],rfl,rfl,⟨_,rfl,rfl,rfl⟩,_,_,[],[],rfl,rfl,⟨by simp [srt,QR,QS],.inl ⟨rfl,by simp [srt,QR],rfl⟩⟩,rfl,rfl⟩
 ·have hus:=QfR hP
  subst hus
  have hlen:(QR l).length=l.length:=Ji l
  rw[hlen] at c1
  simp only[Nat.mul_one] at c3
  rw[hlen]
  have hcur:∀j,j<l.length→cur[j]?=some (.int .i64 l[j]!):=fun j hj=>by
   have:=Mem.cells hg hM j (.int .i64 l[j]!) (by simp [hj])
   simpa using this
  have hH:Holds (Value.int .i64) w b 0 l.toArray:=fun j hj=>by
   have hj:j<l.length:=by simpa using hj
   have hc:=hcur j hj
   refine⟨?_,?_⟩
   ·simp only[World.cell?,hg,Nat.zero_add,hc]
    simp [hj]
   ·simp [World.frozen?,hg]
  have hbs:b<w.heap.size:=(QB.1 hg).1
  refine (h1 b 0 cap l w hH hbs (by simp only[QS] at hl;omega)).mono ?_
  rintro er w' ⟨rfl,n,os2,rfl⟩
  have hsz:(l.mergeSort fun x y=>decide (x≤y)).toArray.size=l.length:=by simp
  obtain⟨k1,c,k2,k3,k4⟩:=Qq9 (n:=n) (os:=os2) (d:=(l.mergeSort fun x y=>decide (x≤y)).toArray) hg (by rw[hsz];omega)
  refine⟨_,[b],rfl,k1.mono fun x _ hx=>by simp [hx],by simp,fun x hx=>by simp at hx;subst hx;exact⟨.inl (by simp),QI hbs k1.size⟩,?_⟩
  simp only[List.map_cons,List.map_nil,DRs,DR]
  refine⟨_,_,[],[b],rfl,rfl,⟨_,rfl,rfl,rfl⟩,_,_,[b],[],rfl,rfl,⟨by rw[Ji,X6];exact hl,.inr ⟨b,cap,c,e,(srt l).map (Value.int .i64),?_,rfl,k2,by rw[Ji,X6];exact c1,c2,by omega,?_,QfS _⟩⟩,rfl,rfl⟩
  ·simp [Ji,X6,hlen]
  ·refine Mem.of_cells k2 (fun j u hj=>?_)
   rw[List.getElem?_map] at hj
   have hjl:j<(srt l).length:=by
    rcases Nat.lt_or_ge j (srt l).length with h|h
    ·exact h
    ·rw[List.getElem?_eq_none h] at hj;cases hj
   have:=k4 j (by rw[hsz];rw[X6] at hjl;exact hjl)
   rw[Nat.zero_add,this]
   rw[Qn hjl] at hj
   simp only[Option.map_some] at hj
   rw[←hj]
   congr 2
   simp [Qq8] at hjl ⊢
   rw[Qn (by simpa using hjl)]
   rfl
def pts(l:List Mo):List D:=l.map mD
theorem Qju(l:List Mo):(pts l).length=l.length:=by simp [pts]
theorem Qrb(l:List Mo)(a b:List Int):pts l++[.agg [.lst 1 (QR a),.lst 1 (QR b)]]=pts (l++[⟨a,b⟩]):=by simp [pts,mD]
attribute [go_sem] Qju Qrb
structure Pr where
 a:Int
 b:Int
 deriving DecidableEq,Inhabited
def prD(x:Pr):D:=.agg [.int .i64 x.a,.int .i64 x.b]
def prs(l:List Pr):List D:=l.map prD
theorem Qrc(l:List Pr):(prs l).length=l.length:=by simp [prs]
theorem Qrd(l:List Pr)(a b:Int):prs l++[.agg [.int .i64 a,.int .i64 b]]=prs (l++[⟨a,b⟩]):=by simp [prs,prD]
theorem Qre(l:List Pr):(prs l).all D.flatE=true:=by simp [prs,prD,D.flatE,D.flat0]
theorem Qjv{l:List Pr}{j:Int}(h0:0≤j)(h:j<l.length):(prs l)[j.toNat]?=some (.agg [.int .i64 (gt l j).a,.int .i64 (gt l j).b]):=by
 unfold prs
 rw[List.getElem?_map,Qbn h0 h];rfl
theorem Qrf{l:List Pr}{i:Nat}(h:i<l.length):(prs l)[i]?=some (.agg [.int .i64 (gt l i).a,.int .i64 (gt l i).b]):=by
 have:=Qjv (l:=l) (j:=i) (by omega) (by omega)
 simpa using this
theorem Qjw:prs []=[]:=rfl
attribute [go_sem] Qrc Qrd Qre Qjv
attribute [go_sem low] Qrf
def g0:G:=⟨[],[]⟩
def m0:Mo:=⟨[],[]⟩
def sel(p:Nat→Bool)(n:Nat):List Int:=((List.range n).filter p).map fun i:Nat=>(i:Int)
theorem Qb7(p:Nat→Bool):sel p 0=[]:=rfl
theorem J9(p:Nat→Bool)(n:Nat):sel p (n+1)=if p n=true then sel p n++[(n:Int)] else sel p n:=by
 simp only[sel,List.range_succ,List.filter_append,List.filter_cons,List.filter_nil,List.map_append]
 split<;>simp
theorem YM(p:Nat→Bool)(n:Nat):(sel p n).length≤n:=by
 simp only[sel,QC]
 exact Qt (List.length_filter_le _ _) (by simp)
def Yy(l:List Int):Bool:=decide l.Nodup
def ZA(a b:G)(m:Mo):Bool:=decide (Yc a b m=0)&&(Yy m.n&&Yy m.e)
section
variable {P:Program} {F:String→Nat} {α:Type}
theorem QfT{a b:G}{m:Mo}(h:Yc a b m=0):QZ a=0∧QZ b=0∧m.n.length=a.n.length∧m.e.length=a.e.length∧YL b.n m.n a.n=0∧Y8 b.e m.n m.e a.e=0:=by
 unfold Yc at h
 split at h
 ·rename_i h1;exact absurd h h1
 ·rename_i h1
  split at h
  ·rename_i h2;exact absurd h h2
  ·rename_i h2
   split at h
   ·cases h
   ·rename_i h3
    split at h
    ·rename_i h4;exact absurd h h4
    ·rename_i h4
     exact⟨by simpa using h1,by simpa using h2,by omega,by omega,by simpa using h4,h⟩
theorem Qjx{a b:G}{m:Mo}(h:Yc a b m=0):m.n.length≤40∧m.e.length≤80∧a.n.length≤40∧a.e.length≤80∧b.n.length≤40∧b.e.length≤80:=by
 obtain⟨h1,h2,h3,h4,_⟩:=QfT h
 obtain⟨a1,a2,_⟩:=XZ h1
 obtain⟨b1,b2,_⟩:=XZ h2
 omega
theorem Qrg{l:List Int}{i:Nat}(h:i<l.length):(l.take (i+1)).Nodup↔(l.take i).Nodup∧∀k:Nat,k<i→gt l i≠gt l k:=by
 rw[Xm h,Qy]
 simp only[List.nodup_cons,List.not_mem_nil,not_false_eq_true,List.nodup_nil,and_self,true_and,Qh,or_false,forall_eq,ne_eq]
 refine and_congr_right fun _=>⟨fun hh k hk e=>?_,fun hh x hx e=>?_⟩
 ·refine hh (gt l k) ?_ e.symm
  rw[QV (by omega)]
  exact List.mem_take_iff_getElem.2 ⟨k,by omega,rfl⟩
 ·obtain⟨k,hk,rfl⟩:=List.mem_take_iff_getElem.1 hx
  refine hh k (by omega) ?_
  rw[QV (l:=l) (i:=k) (by omega)]
  exact e.symm
end
def kept(l:List Int)(i:Nat):Bool:=decide (i=0)||decide (gt l i≠gt l ((i:Int)-1))
def kp(l:List Int)(n:Nat):List Int:=((List.range n).filter (kept l)).map fun i:Nat=>gt l i
def cpt(l:List Int):List Int:=kp l l.length
def YZ(l:List Int):List Int:=cpt (srt l)
def Y9(l:List Int)(n:Nat):Bool:=(List.range n).all fun k:Nat=>decide ((k:Int)∈l)
def QaH(a b:G)(m:Mo):Bool:=decide (Yc a b m=0)&&(Y9 m.n b.n.length&&Y9 m.e b.e.length)
section
variable {P:Program} {F:String→Nat} {α:Type}
theorem Qbv(l:List Int)(n:Nat):kp l (n+1)=if kept l n=true then kp l n++[gt l n] else kp l n:=by
 simp only[kp,List.range_succ,List.filter_append,List.filter_cons,List.filter_nil,List.map_append]
 split<;>simp
theorem Qrh(l:List Int)(n:Nat):(kp l n).length≤n:=by
 simp only[kp,QC]
 exact Qt (List.length_filter_le _ _) (by simp)
theorem Qb8(l:List Int):∀n,n≤l.length→(kp l n).Sublist (l.take n)
 |0,_=>by simp [kp]
 |n+1,h=>by
  rw[Qbv,Xm (by omega)]
  split
  ·exact (Qb8 l n (by omega)).append (List.Sublist.refl _)
  ·exact (Qb8 l n (by omega)).trans (List.sublist_append_left _ _)
theorem Qdq(l:List Int):∀n,n≤l.length→∀x∈l.take n,x∈kp l n
 |0,_=>by simp
 |n+1,h=>by
  intro x hx
  rw[Xm (by omega)] at hx
  rw[Qbv]
  rcases Qd.1 hx with hx|hx
  ·split
   ·exact List.mem_append_left _ (Qdq l n (by omega) x hx)
   ·exact Qdq l n (by omega) x hx
  ·simp only[Qm] at hx
   subst hx
   split
   ·simp
   ·rename_i hk
    simp only[kept,QG,Ql,not_or,ne_eq,QJ] at hk
    refine Qdq l n (by omega) _ ?_
    rw[hk.2,show (n:Int)-1=((n-1:Nat):Int) by omega,QV (by omega)]
    exact List.mem_take_iff_getElem.2 ⟨n-1,by omega,rfl⟩
theorem QfU{l:List Int}(hs:l.Pairwise (·≤·)):∀n,n≤l.length→(kp l n).Pairwise (·<·)
 |0,_=>by simp [kp]
 |n+1,h=>by
  rw[Qbv]
  split
  ·rename_i hk
   rw[List.pairwise_append]
   refine⟨QfU hs n (by omega),by simp,fun x hx y hy=>?_⟩
   simp only[Qm] at hy
   subst hy
   obtain⟨m,hm,rfl⟩:=List.mem_take_iff_getElem.1 ((Qb8 l n (by omega)).subset hx)
   simp only[kept,QG,Ql,ne_eq] at hk
   have hn:n≠0:=by omega
   have hne:gt l n≠gt l ((n:Int)-1):=hk.resolve_left hn
   rw[QV (by omega),show (n:Int)-1=((n-1:Nat):Int) by omega,QV (by omega)] at hne
   rw[QV (by omega)]
   have h1:l[n-1]≤l[n]:=List.pairwise_iff_getElem.1 hs (n-1) n (by omega) (by omega) (by omega)
   have h2:l[m]≤l[n-1]:=by
    by_cases he:m=n-1
    ·subst he;exact Int.le_refl _
    ·exact List.pairwise_iff_getElem.1 hs m (n-1) (by omega) (by omega) (by omega)
   omega
  ·exact QfU hs n (by omega)
theorem Qjy{l:List Int}{x:Int}:x∈YZ l↔x∈l:=by
 unfold YZ cpt
 constructor
 ·intro h
  have:=(Qb8 (srt l) _ (Qg _)).subset h
  rw[List.take_length] at this
  exact (ZO l).mem_iff.1 this
 ·intro h
  exact Qdq (srt l) _ (Qg _) x (by rw[List.take_length];exact (ZO l).mem_iff.2 h)
theorem Qri(l:List Int):(YZ l).Pairwise (·<·):=QfU (Qbu l) _ (Qg _)
theorem QfV(l:List Int):(YZ l).Nodup:=(Qri l).imp (fun h=>by omega)
theorem QfW(l:List Int):(YZ l).length≤l.length:=by
 rw[←X6 l];exact Qrh _ _
theorem imgs_inj{l:List Int}:(YZ l).length=l.length↔l.Nodup:=by
 have hsub:(YZ l).Sublist (srt l):=by
  have:=Qb8 (srt l) _ (Qg _)
  rwa [List.take_length] at this
 constructor
 ·intro h
  have:YZ l=srt l:=hsub.eq_of_length (by rw[h,X6])
  exact (ZO l).nodup_iff.1 (this▸QfV l)
 ·intro h
  have hp:(YZ l).Perm l:=(List.perm_ext_iff_of_nodup (QfV l) h).2 fun x=>Qjy
  exact hp.length_eq
theorem Qrj{l:List Int}{n:Nat}(hb:∀x∈l,0≤x∧x<n):(YZ l).length=n↔∀k:Nat,k<n→(k:Int)∈l:=by
 have hnn:(QY 0 n).Nodup:=by
  unfold QY List.Nodup
  rw[List.pairwise_map]
  exact (List.nodup_range (n:=n)).imp fun h=>by omega
 have hmem:∀x:Int,x∈QY 0 n↔0≤x∧x<n:=fun x=>by
  unfold QY
  simp only[Qv,List.mem_range]
  constructor
  ·rintro⟨k,hk,rfl⟩;omega
  ·rintro⟨h1,h2⟩;exact⟨x.toNat,by omega,by omega⟩
 have hp:(YZ l).Perm ((QY 0 n).filter fun x=>decide (x∈l)):=(List.perm_ext_iff_of_nodup (QfV l) (hnn.filter _)).2 fun x=>by
  rw[Qjy,List.mem_filter,hmem,Ql]
  exact⟨fun h=>⟨hb x h,h⟩,fun h=>h.2⟩
 rw[hp.length_eq]
 have hn:=Yp 0 n
 constructor
 ·intro h k hk
  have:=(List.filter_eq_self.1 ((List.filter_sublist (l:=QY 0 n) (p:=fun x=>decide (x∈l))).eq_of_length (by rw[h,hn]))) k ((hmem k).2 (by omega))
  simpa using this
 ·intro h
  rw[List.filter_eq_self.2 fun x hx=>?_,hn]
  have hx:=(hmem x).1 hx
  have:=h x.toNat (by omega)
  rw[Int.toNat_of_nonneg hx.1] at this
  simpa using this
theorem Qjz(l:List Int):decide (((YZ l).length:Int)=l.length)=Yy l:=by
 rw[Bool.eq_iff_iff,Yy,Ql,Ql,←imgs_inj]
 omega
theorem QfX{bn:List Int}:∀{ms aSq:List Int},YL bn ms aSq=0→ms.length=aSq.length→∀i:Nat,i<ms.length→(0≤gt ms i∧gt ms i<bn.length)∧gt bn (gt ms i)=gt aSq i
 |[],_,_,_,i,hi=>by simp at hi
 |k::ms,[],_,hl,_,_=>by simp at hl
 |k::ms,t::aSq,h,hl,i,hi=>by
  rw[YL] at h
  split at h
  ·rename_i h1
   split at h
   ·rename_i h2
    cases i with
    |zero=>exact⟨h1,h2⟩
    |succ i=>
     have:=QfX h (by simpa using hl) i (by simpa using hi)
     have e1:gt (k::ms) ((i+1:Nat):Int)=gt ms i:=by simp [gt]
     have e2:gt (t::aSq) ((i+1:Nat):Int)=gt aSq i:=by simp [gt]
     rw[e1,e2];exact this
   ·simp at h
  ·simp at h
theorem QfY{be:List E}{mn:List Int}:∀{ms:List Int}{aSq:List E},Y8 be mn ms aSq=0→ms.length=aSq.length→∀i:Nat,i<ms.length→
  (0≤gt ms i∧gt ms i<be.length)∧(gt aSq i).t=(gt be (gt ms i)).t∧gt mn (gt aSq i).f=(gt be (gt ms i)).f∧gt mn (gt aSq i).o=(gt be (gt ms i)).o
 |[],_,_,_,i,hi=>by simp at hi
 |k::ms,[],_,hl,_,_=>by simp at hl
 |k::ms,x::aSq,h,hl,i,hi=>by
  rw[Y8] at h
  split at h
  ·rename_i h1
   split at h
   ·rename_i h2
    split at h
    ·rename_i h3
     cases i with
     |zero=>exact⟨h1,h2,h3⟩
     |succ i=>
      have:=QfY h (by simpa using hl) i (by simpa using hi)
      have e1:gt (k::ms) ((i+1:Nat):Int)=gt ms i:=by simp [gt]
      have e2:gt (x::aSq) ((i+1:Nat):Int)=gt aSq i:=by simp [gt]
      rw[e1,e2];exact this
    ·simp at h
   ·simp at h
  ·simp at h
theorem Xk{α:Type}[Inhabited α]{l:List α}{x:α}(h:x∈l):∃i:Nat,i<l.length∧gt l i=x:=by
 obtain⟨i,hi,rfl⟩:=List.getElem_of_mem h
 exact⟨i,hi,QV hi⟩
theorem Qrk{a b:G}{m:Mo}(h:Yc a b m=0):(∀x∈m.n,0≤x∧x<b.n.length)∧∀x∈m.e,0≤x∧x<b.e.length:=by
 obtain⟨_,_,h3,h4,h5,h6⟩:=QfT h
 refine⟨fun x hx=>?_,fun x hx=>?_⟩
 ·obtain⟨i,hi,rfl⟩:=Xk hx
  exact (QfX h5 h3 i hi).1
 ·obtain⟨i,hi,rfl⟩:=Xk hx
  exact (QfY h6 h4 i hi).1
end
section
variable {α:Type}
theorem Qaa[Inhabited α]{a b:List α}(hl:a.length=b.length)(h:∀i:Nat,i<a.length→gt a i=gt b i):a=b:=by
 refine List.ext_getElem hl fun i h1 h2=>?_
 have:=h i h1
 rwa [QV h1,QV h2] at this
theorem X5{l b:List Int}{i:Nat}(h:i<l.length):gt (thr l b) i=gt b (gt l i):=by
 rw[QV (by rw[X4];exact h)]
 simp only[thr,List.getElem_map]
 rw[QV h]
theorem Qdr{α:Type}[Inhabited α](a:α)(l:List α)(i:Nat):gt (a::l) ((i+1:Nat):Int)=gt l i:=by simp [gt]
theorem Qds{α:Type}[Inhabited α](a:α)(l:List α):gt (a::l) ((0:Nat):Int)=a:=by simp [gt]
theorem QjA{bn:List Int}:∀{ms aSq:List Int},ms.length=aSq.length→(∀i:Nat,i<ms.length→(0≤gt ms i∧gt ms i<bn.length)∧gt bn (gt ms i)=gt aSq i)→YL bn ms aSq=0
 |[],aSq,_,_=>rfl
 |k::ms,[],hl,_=>by simp at hl
 |k::ms,t::aSq,hl,h=>by
  have h0:=h 0 (by simp)
  rw[Qds,Qds] at h0
  rw[YL,if_pos h0.1,if_pos h0.2]
  exact QjA (by simpa using hl) fun i hi=>by have:=h (i+1) (by simpa using hi);rwa [Qdr,Qdr] at this
theorem QjB{be:List E}{mn:List Int}:∀{ms:List Int}{aSq:List E},ms.length=aSq.length→(∀i:Nat,i<ms.length→
  (0≤gt ms i∧gt ms i<be.length)∧(gt aSq i).t=(gt be (gt ms i)).t∧gt mn (gt aSq i).f=(gt be (gt ms i)).f∧gt mn (gt aSq i).o=(gt be (gt ms i)).o)→Y8 be mn ms aSq=0
 |[],aSq,_,_=>by cases aSq<;>rfl
 |k::ms,[],hl,_=>by simp at hl
 |k::ms,x::aSq,hl,h=>by
  have h0:=h 0 (by simp)
  rw[Qds,Qds] at h0
  rw[Y8,if_pos h0.1,if_pos h0.2.1,if_pos h0.2.2]
  exact QjB (by simpa using hl) fun i hi=>by have:=h (i+1) (by simpa using hi);rwa [Qdr,Qdr] at this
structure MOk(a b:G)(m:Mo):Prop where
 va:QZ a=0
 vb:QZ b=0
 ln:m.n.length=a.n.length
 le:m.e.length=a.e.length
 nd:∀i:Nat,i<a.n.length→(0≤gt m.n i∧gt m.n i<b.n.length)∧gt b.n (gt m.n i)=gt a.n i
 ed:∀i:Nat,i<a.e.length→(0≤gt m.e i∧gt m.e i<b.e.length)∧(gt a.e i).t=(gt b.e (gt m.e i)).t∧gt m.n (gt a.e i).f=(gt b.e (gt m.e i)).f∧gt m.n (gt a.e i).o=(gt b.e (gt m.e i)).o
theorem mok{a b:G}{m:Mo}:Yc a b m=0↔MOk a b m:=by
 constructor
 ·intro h
  obtain⟨h1,h2,h3,h4,h5,h6⟩:=QfT h
  exact⟨h1,h2,h3,h4,fun i hi=>QfX h5 h3 i (by omega),fun i hi=>QfY h6 h4 i (by omega)⟩
 ·intro h
  unfold Yc
  rw[if_neg (by simp [h.va]),if_neg (by simp [h.vb]),if_neg (by have:=h.ln;have:=h.le;omega),if_neg (by
   rw[QjA h.ln fun i hi=>h.nd i (by have:=h.ln;omega)];simp)]
  exact QjB h.le fun i hi=>h.ed i (by have:=h.le;omega)
theorem JE{g:G}(h1:g.n.length≤40)(h2:g.e.length≤80)(h3:∀x,x∈g.n→okN x=true)(h4:∀x,x∈g.e→Yx g.n.length x=true):QZ g=0:=by
 unfold QZ
 rw[if_neg (by omega),if_pos]
 simp only[Qk,Qs]
 exact⟨h3,h4⟩
theorem Zi{α:Type}[Inhabited α]{l:List α}(hn:l.Nodup){i j:Nat}(hi:i<l.length)(hj:j<l.length)(h:gt l i=gt l j):i=j:=by
 rw[QV hi,QV hj] at h
 exact (List.getElem_inj hn).1 h
theorem ZB{α β:Type}[Inhabited α][Inhabited β]{l:List α}{f:α→β}{i:Nat}(h:i<l.length):gt (l.map f) i=f (gt l i):=by
 rw[QV (by simpa using h),QV h];simp
theorem gtI{α:Type}[Inhabited α]{l:List α}{y:Int}(h:0≤y∧y<l.length):∃i:Nat,i<l.length∧y=(i:Int):=⟨y.toNat,by omega,by omega⟩
theorem Zj{g:G}(h:QZ g=0){i:Int}(hi:0≤i∧i<g.e.length):(0≤(gt g.e i).t∧(gt g.e i).t≤99)∧(0≤(gt g.e i).f∧(gt g.e i).f<g.n.length)∧(0≤(gt g.e i).o∧(gt g.e i).o<g.n.length):=
 Qbt ((XZ h).2.2.2 _ (gt_mem hi.1 hi.2))
theorem YO{n i:Nat}(hi:i<n):gt (QY 0 n) i=i:=by
 unfold QY
 rw[QV (by simp;exact hi)]
 simp
theorem nums_mem{n:Nat}{x:Int}:x∈QY 0 n↔0≤x∧x<n:=by
 unfold QY
 simp only[Qv,List.mem_range]
 constructor
 ·rintro⟨k,hk,rfl⟩;omega
 ·rintro⟨h1,h2⟩;exact⟨x.toNat,by omega,by omega⟩
theorem Qdt(n:Nat):(QY 0 n).Nodup:=by
 unfold QY List.Nodup
 rw[List.pairwise_map]
 exact (List.nodup_range (n:=n)).imp fun h=>by omega
def idM(g:G):Mo:=⟨QY 0 g.n.length,QY 0 g.e.length⟩
end
structure Atr where
 nm:ByteArray
 lo:Int
 hi:Int
 ns:List ByteArray
 deriving Inhabited
structure NT where
 nm:ByteArray
 par:Int
 ab:Bool
 ats:List Atr
 deriving Inhabited
structure ET where
 nm:ByteArray
 f:Int
 o:Int
 ol:Int
 oh:Int
 il:Int
 ih:Int
 deriving Inhabited
structure Ty where
 n:List NT
 e:List ET
 deriving Inhabited
def Jm(l:List ByteArray):List D:=l.map .str
def atD(x:Atr):D:=.agg [.str x.nm,.int .i64 x.lo,.int .i64 x.hi,.lst 1 (Jm x.ns)]
def Ys(l:List Atr):List D:=l.map atD
def ntD(x:NT):D:=.agg [.str x.nm,.int .i64 x.par,.bool x.ab,.lst 4 (Ys x.ats)]
def Y0(l:List NT):List D:=l.map ntD
def etD(x:ET):D:=.agg [.str x.nm,.int .i64 x.f,.int .i64 x.o,.int .i64 x.ol,.int .i64 x.oh,.int .i64 x.il,.int .i64 x.ih]
def Y1(l:List ET):List D:=l.map etD
def tyD(t:Ty):D:=.agg [.lst 4 (Y0 t.n),.lst 7 (Y1 t.e)]
def Yj(k:Nat):ByteArray:=bs [UInt8.ofNat k]
def Qbw:ByteArray:=bs [111,102,102]
def sOn:ByteArray:=bs [111,110]
structure AtrOk(i:Nat)(x:Atr):Prop where
 nm:x.nm=Yj (117+i)
 ns:(x.ns=[]∧x.lo= -3∧3≤x.hi∧x.hi≤11)∨(x.ns=[Qbw,sOn]∧x.lo=0∧x.hi=1)
structure NTOk(i:Nat)(x:NT):Prop where
 nm:x.nm=Yj (65+i)
 p0: -1≤x.par
 p1:x.par<i
 len:x.ats.length≤1
 ats:∀a∈x.ats,AtrOk i a
structure ETOk(n i:Nat)(x:ET):Prop where
 nm:x.nm=Yj (101+i)
 f:0≤x.f∧x.f<n
 o:0≤x.o∧x.o<n
 ol:x.ol=0
 oh:x.oh= -1
 il:x.il=0
 ih:x.ih= -1
structure TyOk(t:Ty):Prop where
 pos:0<t.n.length
 ln:t.n.length≤6
 le:t.e.length≤5
 n:∀i:Nat,i<t.n.length→NTOk i (gt t.n (i:Int))
 e:∀i:Nat,i<t.e.length→ETOk t.n.length i (gt t.e (i:Int))
def Qab(t:Ty):Nat→Int→List Int
 |0,_=>[]
 |n+1,a=>if a<0 then [] else a::Qab t n (gt t.n a).par
def anc(t:Ty)(a:Int):List Int:=Qab t (a+1).toNat a
def Xh(t:Ty)(a b:Int):Bool:=decide (b∈anc t a)
def Q0(t:Ty)(a:Int):List Atr:=(anc t a).reverse.flatMap fun x=>(gt t.n x).ats
def IsT(t:Ty)(a:Int):Prop:=0≤a∧a<t.n.length
section
variable {t:Ty}
theorem TyOk.nt(h:TyOk t){a:Int}(ha:IsT t a):NTOk a.toNat (gt t.n a):=by
 obtain⟨i,hi,rfl⟩:=gtI (l:=t.n) ha
 exact h.n i hi
theorem TyOk.par(h:TyOk t){a:Int}(ha:IsT t a): -1≤(gt t.n a).par∧(gt t.n a).par<a:=by
 have:=h.nt ha
 have h1:=this.p0
 have h2:=this.p1
 have:=ha.1
 omega
theorem QjC(h:TyOk t):∀(n m:Nat)(a:Int),a<t.n.length→a<n→a<m→Qab t n a=Qab t m a
 |0,0,_,_,_,_=>rfl
 |0,m+1,a,_,h1,_=>by simp only[Qab];rw[if_pos (by omega)]
 |n+1,0,a,_,_,h1=>by simp only[Qab];rw[if_pos (by omega)]
 |n+1,m+1,a,hl,h1,h2=>by
  simp only[Qab]
  by_cases h0:a<0
  ·rw[if_pos h0,if_pos h0]
  ·rw[if_neg h0,if_neg h0]
   have:=h.par (a:=a) ⟨by omega,hl⟩
   rw[QjC h n m _ (by omega) (by omega) (by omega)]
theorem Qbx{a:Int}(h:a<0):anc t a=[]:=by
 unfold anc
 have:(a+1).toNat=0:=by omega
 rw[this];rfl
theorem QaI(h:TyOk t){a:Int}(ha:IsT t a):anc t a=a::anc t (gt t.n a).par:=by
 have hp:=h.par ha
 have h0:=ha.1
 have h1:=ha.2
 unfold anc
 have e:(a+1).toNat=a.toNat+1:=by omega
 rw[e]
 simp only[Qab]
 rw[if_neg (by omega)]
 rw[QjC h a.toNat ((gt t.n a).par+1).toNat _ (by omega) (by omega) (by omega)]
theorem JF(h:TyOk t){p:Int→Prop}(h0:∀a,a<0→p a)(h1:∀a,IsT t a→p (gt t.n a).par→p a):∀a:Int,a<t.n.length→p a:=by
 have key:∀n:Nat,∀a:Int,a<n→a<t.n.length→p a:=by
  intro n
  induction n with
  |zero=>exact fun a ha _=>h0 a (by omega)
  |succ n ih=>
   intro a ha hl
   by_cases hn:a<0
   ·exact h0 a hn
   ·have ht:IsT t a:=⟨by omega,hl⟩
    have:=h.par ht
    exact h1 a ht (ih _ (by omega) (by omega))
 exact fun a ha=>key t.n.length a ha ha
theorem QjD(h:TyOk t):∀a:Int,a<t.n.length→((anc t a).length:Int)≤max 0 (a+1):=by
 refine JF h (fun a ha=>?_) fun a ha ih=>?_
 ·rw[Qbx ha];simp;omega
 ·rw[QaI h ha]
  have hp:=h.par ha
  have h0:=ha.1
  simp only[List.length_cons]
  omega
theorem QjE(h:TyOk t){a:Int}(ha:IsT t a):Xh t a a=true:=by
 unfold Xh
 rw[QaI h ha]
 simp
theorem QjF(h:TyOk t){b c:Int}(hbc:Xh t b c=true):∀a:Int,a<t.n.length→Xh t a b=true→Xh t a c=true:=by
 refine JF h (fun a ha hs=>?_) fun a ha ih hs=>?_
 ·unfold Xh at hs
  rw[Qbx ha] at hs
  simp at hs
 ·unfold Xh at hs ih ⊢
  rw[QaI h ha] at hs ⊢
  simp only[Qh,Ql] at hs ih ⊢
  rcases hs with rfl|hs
  ·unfold Xh at hbc
   rw[QaI h ha] at hbc
   simpa using hbc
  ·exact .inr (ih hs)
theorem Qb9{a:Int}(h:a<0):Q0 t a=[]:=by
 unfold Q0;rw[Qbx h];rfl
theorem Qac(h:TyOk t){a:Int}(ha:IsT t a):Q0 t a=Q0 t (gt t.n a).par++(gt t.n a).ats:=by
 unfold Q0;rw[QaI h ha];simp
theorem Qrl(h:TyOk t):∀a:Int,a<t.n.length→((Q0 t a).length:Int)≤max 0 (a+1):=by
 refine JF h (fun a ha=>?_) fun a ha ih=>?_
 ·rw[Qb9 ha];simp;omega
 ·rw[Qac h ha]
  have hp:=h.par ha
  have h0:=ha.1
  have:=(h.nt ha).len
  simp only[Qj]
  omega
theorem X7(h:TyOk t){a:Int}(ha:a<t.n.length):(Q0 t a).length≤6:=by
 have:=Qrl h a ha
 have:=h.ln
 omega
theorem Qby(h:TyOk t):∀a:Int,a<t.n.length→∀x∈Q0 t a,∃i:Nat,(i:Int)≤a∧AtrOk i x:=by
 refine JF h (fun a ha x hx=>?_) fun a ha ih x hx=>?_
 ·rw[Qb9 ha] at hx;cases hx
 ·rw[Qac h ha] at hx
  have hp:=h.par ha
  rcases Qd.1 hx with hx|hx
  ·obtain⟨i,h1,h2⟩:=ih x hx
   exact⟨i,by omega,h2⟩
  ·exact⟨a.toNat,by have:=ha.1;omega,(h.nt ha).ats x hx⟩
theorem AtrOk.bd{i:Nat}{x:Atr}(h:AtrOk i x): -3≤x.lo∧x.lo≤0∧1≤x.hi∧x.hi≤11:=by
 rcases h.ns with⟨_,h1,h2,h3⟩|⟨_,h1,h2⟩<;>omega
theorem Qca(h:TyOk t){a:Int}(ha:a<t.n.length){x:Atr}(hx:x∈Q0 t a): -3≤x.lo∧x.lo≤0∧1≤x.hi∧x.hi≤11:=by
 obtain⟨i,_,hi⟩:=Qby h a ha x hx
 exact hi.bd
theorem QjG{a b:Nat}(ha:a<256)(hb:b<256)(h:Yj a=Yj b):a=b:=by
 unfold Yj bs at h
 have h2:=congrArg (fun x:ByteArray=>(x.data.toList.map UInt8.toNat)) h
 simp only[List.map_cons,List.map_nil,UInt8.toNat_ofNat',List.cons.injEq,and_true] at h2
 omega
theorem Qrm(l:List ByteArray):(Jm l).length=l.length:=by simp [Jm]
theorem Qrn(l:List Atr):(Ys l).length=l.length:=by simp [Ys]
theorem Qro(l:List NT):(Y0 l).length=l.length:=by simp [Y0]
theorem Qrp(l:List ET):(Y1 l).length=l.length:=by simp [Y1]
theorem Qrq{l:List Atr}{i:Nat}(h:i<l.length):(Ys l)[i]?=some (atD (gt l (i:Int))):=by
 unfold Ys;rw[List.getElem?_map,Qn h,QV h];rfl
theorem Qrr{l:List NT}{i:Nat}(h:i<l.length):(Y0 l)[i]?=some (ntD (gt l (i:Int))):=by
 unfold Y0;rw[List.getElem?_map,Qn h,QV h];rfl
theorem Qrs{l:List ET}{i:Nat}(h:i<l.length):(Y1 l)[i]?=some (etD (gt l (i:Int))):=by
 unfold Y1;rw[List.getElem?_map,Qn h,QV h];rfl
theorem Qrt{l:List ByteArray}{i:Nat}(h:i<l.length):(Jm l)[i]?=some (.str (gt l (i:Int))):=by
 unfold Jm;rw[List.getElem?_map,Qn h,QV h];rfl
end
def Qdu(P:Program)(md:Nat→Nat→List Md):Tab:=fun f=>match P.funcs[f]? with
 |some fn=>if okF P md f fn.params.size=true then some (cd P md f,rsF P f,muF md f,fn.params.size) else none
 |none=>none
theorem Qad{m f:Nat}{args:List D}{r:D}{os:List (Nat×D)}(h:xF (fun _ _=>none) (Qdu Tryz.prog mdT) m f args=some (r,os)):FC Tryz.prog f args r os:=
 Qi0 (P:=Tryz.prog) (E:=fun _ _=>none) (T:=Qdu Tryz.prog mdT) (fun _ _ _ _ h=>by cases h) (fun f c rs outs n hT args r os hn hok hW=>by
  unfold Qdu at hT
  split at hT
  ·split at hT
   ·rename_i h1
    simp only[Qb,Qc] at hT
    obtain⟨rfl,rfl,rfl,rfl⟩:=hT
    exact fcO tmx (by rw[hn];exact h1) hok hW
   ·cases hT
  ·cases hT) m f args r os h
def Qdv(P:Program)(md:Nat→Nat→List Md)(f:Nat)(s:ByteArray):Bool:=match xF (fun _ _=>none) (Qdu P md) 100 f [.str s] with
 |some (.bool true,[])=>true
 |_=>false
theorem QjH{f:Nat}{s:ByteArray}(h:Qdv Tryz.prog mdT f s=true):FT f [.str s] (.bool true):=by
 unfold Qdv at h
 split at h
 ·rename_i e;exact Qad e
 ·cases h
def nmsL:List ByteArray:=Qbw::sOn::(([65,66,67,68,69,70,117,118,119,120,121,122,101,102,103,104,105,114]:List Nat).map Yj)
theorem Qdw(s:ByteArray)(h:s∈nmsL):FT 218 [.str s] (.bool true):=
 QjH (Qs.1 (by kernel_rfl:nmsL.all (Qdv Tryz.prog mdT 218)=true) s h)
theorem Qdx(s:ByteArray)(h:s∈nmsL):FT 282 [.str s] (.bool true):=
 QjH (Qs.1 (by kernel_rfl:nmsL.all (Qdv Tryz.prog mdT 282)=true) s h)
attribute [go_sem] ite_self Qrm Qrn Qro Qrp
attribute [go_sem low] Qrt Qrq Qrr Qrs
theorem Qae{k:Nat}(h:(65≤k∧k≤70)∨(117≤k∧k≤122)∨(101≤k∧k≤105)∨k=114):Yj k∈nmsL:=
 Qu _ (Qu _ (List.mem_map_of_mem (by simp;omega)))
theorem Qdy{a b:Nat}(ha:a<256)(hb:b<256)(h:a≠b):decide (Yj a=Yj b)=false:=Qf fun e=>h (QjG ha hb e)
section
variable {t:Ty}
theorem Qaf{n a b:Int}(h1:a≤n)(h2:n≤b):FT 194 [.int .i64 n,.int .i64 a,.int .i64 b] (.bool true):=by
 refine fo [] ?_
 conv in fnC ..=>reduce
 have e1:=Qdd h1
 have e2:=Qdd h2
 simp(disch:=omega)only[go_sem,e1,e2]
theorem Qru(l:List ByteArray)(h:l=[Qbw,sOn]):FT 442 [.lst 1 (Jm l)] (.int .i64 0):=by
 subst h
 exact Qad (m:=100) (by kernel_rfl)
theorem QjI(l m:List Atr):Ys l++Ys m=Ys (l++m):=(List.map_append ..).symm
theorem Qrv(l:List Atr)(x:Atr):Ys l++[atD x]=Ys (l++[x]):=by simp [Ys]
theorem AtrOk.nl{i:Nat}{x:Atr}(h:AtrOk i x):x.ns.length≤2:=by
 rcases h.ns with⟨e,_⟩|⟨e,_⟩<;>rw[e]<;>simp
theorem QjJ(h:TyOk t):∀a:Int,a<t.n.length→(Q0 t a).Pairwise fun x y=>x.nm≠y.nm:=by
 refine JF h (fun a ha=>?_) fun a ha ih=>?_
 ·rw[Qb9 ha];exact List.Pairwise.nil
 ·have hp:=h.par ha
  rw[Qac h ha,List.pairwise_append]
  refine⟨ih,?_,fun x hx y hy e=>?_⟩
  ·have:=(h.nt ha).len
   cases hl:(gt t.n a).ats with
   |nil=>exact List.Pairwise.nil
   |cons b l=>rw[hl] at this;cases l with
    |nil=>exact List.pairwise_singleton _ _
    |cons _ _=>simp at this
  ·obtain⟨i,h1,h2⟩:=Qby h _ (by have:=ha.2;omega) x hx
   have h3:=(h.nt ha).ats y hy
   rw[h2.nm,h3.nm] at e
   have:=h.ln
   have:=ha.1
   have:=ha.2
   have:=QjG (by omega) (by omega) e
   omega
theorem Ty.sub_par(h:TyOk t){a b:Int}(ha:IsT t a):Xh t a b=(decide (a=b)||Xh t (gt t.n a).par b):=by
 unfold Xh
 rw[QaI h ha]
 by_cases c:a=b<;>simp [c,eq_comm]
theorem Qcb(h:TyOk t):∀a:Int,a<t.n.length→∀b:Int, -1≤a→0≤b→FT 195 [tyD t,.int .i64 a,.int .i64 b] (.bool (Xh t a b)):=by
 refine JF h (fun a ha b h0 hb=>?_) fun a ha ih b h0 hb=>?_
 ·refine fo [[]] ?_
  conv in fnC ..=>reduce
  have e:Xh t a b=false:=by simp [Xh,Qbx ha]
  have c1:decide (a=b)=false:=Qf (by omega)
  have c2:decide (0≤a)=false:=Qf (by omega)
  rw[e]
  simp(disch:=omega)only[go_sem,tyD,c1,c2]
 ·refine fo [[]] ?_
  conv in fnC ..=>reduce
  have hp:=h.par ha
  have r:=ih b hp.1 hb
  rw[Ty.sub_par h ha]
  obtain⟨i,hi,rfl⟩:=gtI (l:=t.n) ha
  have c2:decide ((0:Int)≤i)=true:=Qdd (by omega)
  cases e:decide ((i:Int)=b)
  ·simp(disch:=omega)only[go_sem,tyD,e,c2,ntD]
   refine QQ r ?_
   simp(disch:=omega)only[go_sem]
   rfl
  ·simp(disch:=omega)only[go_sem,tyD,e]
   rfl
theorem QjK{a b:Int}(h1:a=0)(h2:b= -1):FT 396 [.int .i64 a,.int .i64 b] (.bool true):=by
 subst h1 h2
 exact Qad (m:=100) (by kernel_rfl)
theorem QjL(h:TyOk t):∀a:Int,a<t.n.length→FT 193 [tyD t,.int .i64 a] (.arr 4 (Ys (Q0 t a))):=by
 refine JF h (fun a ha=>?_) fun a ha ih=>?_
 ·refine fo [[(1,(some 0),[],false),(3,(some 4),[],false),(5,(some 28),[],false),(7,(some 124),[],false),(8,(some 254),[],true),(9,none,[],true),(11,(some 1024),[8,9],false),(13,(some 7168),[8,9],false),(15,(some 31744),[8,9],false)]] ?_
  conv in fnC ..=>reduce
  have e:=Qdd ha
  rw[Qb9 ha]
  simp(disch:=omega)only[go_sem,tyD,e]
  rfl
 ·refine fo [[(1,(some 0),[],false),(3,(some 4),[],false),(5,(some 28),[],false),(7,(some 124),[],false),(8,(some 254),[],true),(9,none,[],true),(11,(some 1024),[8,9],false),(13,(some 7168),[8,9],false),(15,(some 31744),[8,9],false)]] ?_
  conv in fnC ..=>reduce
  have hp:=h.par ha
  obtain⟨i,hi,rfl⟩:=gtI (l:=t.n) ha
  have e:decide ((i:Int)<0)=false:=Qf (by omega)
  rw[Qac h ha]
  have l1:=X7 h (a:=(gt t.n (i:Int)).par) (by omega)
  have l2:=(h.n i hi).len
  generalize Q0 t (gt t.n (i:Int)).par=A at*
  simp(disch:=omega)only[go_sem,tyD,e,ntD]
  refine QQ ih ?_
  simp(disch:=omega)only[go_sem,ntD]
  rw[QjI]
theorem Qrw{i:Nat}{x:Atr}(h:AtrOk i x):FT 395 [atD x] (.int .i64 0):=by
 refine fo [] ?_
 conv in fnC ..=>reduce
 obtain⟨nm,lo,hi,ns⟩:=x
 rcases h.ns with⟨e1,e2,e3,e4⟩|⟨e1,e2,e3⟩<;>simp only at e1 e2 e3<;>subst e1 e2
 ·simp only at e4
  simp(disch:=omega)only[go_sem,axS,atD]
  refine QQ (Qaf (by omega) (by omega)) ?_
  simp(disch:=omega)only[go_sem]
  refine QQ (Qaf (by omega) (by omega)) ?_
  simp(disch:=omega)only[go_sem]
 ·subst e3
  simp(disch:=omega)only[go_sem,axS,atD]
  refine QQ (Qru _ rfl) ?_
  simp(disch:=omega)only[go_sem,axS]
theorem Qrx(h:TyOk t)(i:Nat)(hi:i<t.n.length):FT 343 [tyD t,.int .i64 i] (.int .i64 0):=by
 refine fo [[],[]] ?_
 conv in fnC ..=>reduce
 have o:=h.n i hi
 have l0:=h.ln
 have l1:=o.len
 have nmE:∀k:Nat,k<t.n.length→(gt t.n (k:Int)).nm=Yj (65+k):=fun k hk=>(h.n k hk).nm
 have m1:(gt t.n (i:Int)).nm∈nmsL:=by rw[nmE i hi];exact Qae (by omega)
 have g1:=X7 h (a:=i) (by omega)
 have g2:=Qby h i (by omega)
 have g3:=QjJ h i (by omega)
 have ra:=QjL h i (by omega)
 have hp:=o.p0
 have hp2:=o.p1
 have g4:(gt t.n (i:Int)).ats.length≤(Q0 t i).length:=by rw[Qac h (a:=i) ⟨by omega,by omega⟩];simp
 generalize Q0 t i=A at*
 simp(disch:=omega)only[go_sem,tyD,ntD]
 refine QQ (Qdx _ m1) ?_
 simp(disch:=omega)only[go_sem]
 refine Xb 6 i 0 rfl (by omega) fun k _ hk=>?_
 simp(disch:=omega)only[go_sem]
 refine QT (fun c=>?_) (fun c=>?_)
 ·have e:decide ((gt t.n (k:Int)).nm=(gt t.n (i:Int)).nm)=false:=by rw[nmE k (by omega),nmE i hi];exact Qdy (by omega) (by omega) (by omega)
  simp(disch:=omega)only[go_sem,ntD,e]
  exact⟨k+1,by simp,by omega,by omega⟩
 ·simp(disch:=omega)only[go_sem]
  refine QQ (Qaf (by omega) (by omega)) ?_
  simp(disch:=omega)only[go_sem,tyD]
  refine QQ ra ?_
  simp(disch:=omega)only[go_sem,axS]
  obtain⟨d,hd⟩:∃d:Nat,A.length=d+(gt t.n (i:Int)).ats.length:=⟨_,(Nat.sub_add_cancel g4).symm⟩
  have e:((A.length:Int)-((gt t.n (i:Int)).ats.length:Int))=d:=by omega
  rw[e]
  refine Xb 8 A.length d rfl (by omega) fun j _ hj=>?_
  simp(disch:=omega)only[go_sem]
  refine QT (fun c=>?_) (fun c=>?_)
  ·have hm:=gt_mem (l:=A) (j:=(j:Int)) (by omega) (by omega)
   obtain⟨n,hn,ho⟩:=g2 _ hm
   have m2:(gt A (j:Int)).nm∈nmsL:=by rw[ho.nm];exact Qae (by omega)
   simp(disch:=omega)only[go_sem,atD]
   refine QQ (Qdx _ m2) ?_
   simp(disch:=omega)only[go_sem]
   refine Xb 9 j 0 rfl (by omega) fun k _ hk=>?_
   simp(disch:=omega)only[go_sem]
   refine QT (fun c=>?_) (fun c=>?_)
   ·have e:decide ((gt A (k:Int)).nm=(gt A (j:Int)).nm)=false:=by
     rw[QV (by omega),QV (by omega)]
     exact Qf (List.pairwise_iff_getElem.1 g3 k j (by omega) (by omega) (by omega))
    simp(disch:=omega)only[go_sem,atD,e]
    exact⟨k+1,by simp,by omega,by omega⟩
   ·simp(disch:=omega)only[go_sem,atD]
    refine QQ (Qrw ho) ?_
    simp(disch:=omega)only[go_sem,axS]
    exact⟨j+1,by simp,by omega,by omega⟩
  ·simp(disch:=omega)only[go_sem]
theorem Qry(h:TyOk t)(i:Nat)(hi:i<t.e.length):FT 344 [tyD t,.int .i64 i] (.int .i64 0):=by
 refine fo [[]] ?_
 conv in fnC ..=>reduce
 have o:=h.e i hi
 have l0:=h.le
 have l3:=h.ln
 have nmE:∀k:Nat,k<t.e.length→(gt t.e (k:Int)).nm=Yj (101+k):=fun k hk=>(h.e k hk).nm
 have m1:(gt t.e (i:Int)).nm∈nmsL:=by rw[nmE i hi];exact Qae (by omega)
 have hf:=o.f
 have ho:=o.o
 simp(disch:=omega)only[go_sem,tyD,etD]
 refine QQ (Qdx _ m1) ?_
 simp(disch:=omega)only[go_sem]
 refine Xb 6 i 0 rfl (by omega) fun k _ hk=>?_
 simp(disch:=omega)only[go_sem]
 refine QT (fun c=>?_) (fun c=>?_)
 ·have e:decide ((gt t.e (k:Int)).nm=(gt t.e (i:Int)).nm)=false:=by rw[nmE k (by omega),nmE i hi];exact Qdy (by omega) (by omega) (by omega)
  simp(disch:=omega)only[go_sem,etD,e]
  exact⟨k+1,by simp,by omega,by omega⟩
 ·simp(disch:=omega)only[go_sem]
  refine QQ (Qaf (by omega) (by omega)) ?_
  simp(disch:=omega)only[go_sem]
  refine QQ (Qaf (by omega) (by omega)) ?_
  simp(disch:=omega)only[go_sem]
  refine QQ (QjK o.ol o.oh) ?_
  simp(disch:=omega)only[go_sem]
  refine QQ (QjK o.il o.ih) ?_
  simp(disch:=omega)only[go_sem]
theorem Qbz(h:TyOk t):FT 272 [tyD t] (.tup [.str (bs []),.int .i64 0]):=by
 refine fo [] ?_
 conv in fnC ..=>reduce
 have l0:=h.ln
 have l1:=h.le
 have l2:=h.pos
 simp(disch:=omega)only[go_sem,axS,tyD]
 refine Xb 4 t.n.length 0 rfl (by omega) fun k _ hk=>?_
 simp(disch:=omega)only[go_sem]
 refine QT (fun c=>?_) (fun c=>?_)
 ·simp(disch:=omega)only[go_sem]
  refine QQ (Qrx h k (by omega)) ?_
  simp(disch:=omega)only[go_sem,axS]
  exact⟨k+1,by simp,by omega,by omega⟩
 ·simp(disch:=omega)only[go_sem]
  refine Xb 6 t.e.length 0 rfl (by omega) fun k _ hk=>?_
  simp(disch:=omega)only[go_sem]
  refine QT (fun c=>?_) (fun c=>?_)
  ·simp(disch:=omega)only[go_sem]
   refine QQ (Qry h k (by omega)) ?_
   simp(disch:=omega)only[go_sem,axS]
   exact⟨k+1,by simp,by omega,by omega⟩
  ·simp(disch:=omega)only[go_sem]
   rfl
theorem QjM(h:TyOk t){a b:Int}(ha:IsT t a)(hb:IsT t b):FT 192 [tyD t,.int .i64 a,.int .i64 b] (.int .i64 0):=by
 refine fo [] ?_
 conv in fnC ..=>reduce
 have l0:=h.ln
 obtain⟨a1,a2⟩:=ha
 obtain⟨b1,b2⟩:=hb
 simp(disch:=omega)only[go_sem,tyD]
 refine QQ (Qbz h) ?_
 simp(disch:=omega)only[go_sem,axS]
 refine QQ (Qaf a1 (by omega)) ?_
 simp(disch:=omega)only[go_sem]
 refine QQ (Qaf b1 (by omega)) ?_
 simp(disch:=omega)only[go_sem]
theorem Qag(h:TyOk t){a:Int}(ha:IsT t a):FT 116 [tyD t,.int .i64 a] (.tup [.arr 4 (Ys (Q0 t a)),.int .i64 0]):=by
 refine fo [] ?_
 conv in fnC ..=>reduce
 have l0:=h.ln
 have ra:=QjL h a ha.2
 have g:=X7 h ha.2
 have hA:=Qby h a ha.2
 generalize Q0 t a=A at*
 simp(disch:=omega)only[go_sem,tyD]
 refine QQ (QjM h ha ha) ?_
 simp(disch:=omega)only[go_sem,axS]
 refine QQ ra ?_
 simp(disch:=omega)only[go_sem]
 refine Q8 9 A.length (fun i=>[(7,.sl 0 0 i)]) (fun i=>[(0,.arr 4 (Ys (A.take i)))]) (fun _=>True) (by simp(disch:=omega)only[go_sem];rfl) trivial fun i hi _=>?_
 simp(disch:=omega)only[go_sem]
 refine QT (fun c=>?_) (fun c=>?_)
 ·obtain⟨n,hn,ho⟩:=hA _ (gt_mem (l:=A) (j:=(i:Int)) (by omega) (by omega))
  have hl:(gt A (i:Int)).ns.length≤2:=ho.nl
  have hlt:(A.take i).length=i:=List.length_take_of_le (by omega)
  simp(disch:=omega)only[go_sem,atD,hlt]
  exact⟨i+1,by rw[Xm (by omega),←Qrv];simp [atD],by omega,by omega⟩
 ·obtain rfl:i=A.length:=by omega
  simp(disch:=omega)only[go_sem,List.take_length]
theorem Qdz(h:TyOk t){k a b:Int}(hk:0≤k∧k<t.e.length)(ha:IsT t a)(hb:IsT t b):FT 117 [tyD t,.int .i64 k,.int .i64 a,.int .i64 b] (.bool (Xh t a (gt t.e k).f&&Xh t b (gt t.e k).o)):=by
 refine fo [[]] ?_
 conv in fnC ..=>reduce
 obtain⟨i,hi,rfl⟩:∃i:Nat,i<t.e.length∧k=i:=⟨k.toNat,by omega,by omega⟩
 have l0:=h.le
 have o:=h.e i hi
 have r1:=Qcb h a ha.2 (gt t.e (i:Int)).f (by have:=ha.1;omega) o.f.1
 have r2:=Qcb h b hb.2 (gt t.e (i:Int)).o (by have:=hb.1;omega) o.o.1
 simp(disch:=omega)only[go_sem,tyD]
 refine QQ (QjM h ha hb) ?_
 simp(disch:=omega)only[go_sem,axS]
 refine QQ (Qaf (by omega) (by omega)) ?_
 simp(disch:=omega)only[go_sem,etD]
 refine QQ r1 ?_
 simp(disch:=omega)only[go_sem]
 cases c:Xh t a (gt t.e (i:Int)).f
 ·simp(disch:=omega)only[go_sem]
 ·simp(disch:=omega)only[go_sem,etD]
  refine QQ r2 ?_
  simp(disch:=omega)only[go_sem]
end
theorem Qrz(l:List Int)(hl:l.length≤QS)(g:Nat)(cs:List D)(hcs:cs.all YK=true)(p:Int→Bool)(hg:∀x,x∈l→FC Tryz.prog g (.int .i64 x::cs) (.bool (p x)) []):FC Tryz.prog 254 [.lst 1 (QR l),.clo g cs] (.int .i64 (idx p l 0)) []:=by
 refine fo [] ?_ (hok:=(by simp only[List.all_cons,List.all_nil,Bool.and_true];exact ZN hcs))
 conv in fnC ..=>reduce
 unfold QS at hl
 have e1:=Qbp hcs
 have e2:=Qbq hcs
 simp(disch:=omega)only[go_sem]
 refine Xj (fun i:Nat=>⟨[(0,.lst 1 (QR l)),(1,.clo g cs),(7,.int .i64 l.length),(8,.int .i64 i)],[],0⟩) (fun i=>i≤l.length∧idx p l 0=idx p (l.drop i) i) (fun i=>l.length-i) 0 ?_ ?_ ?_
 ·simp(disch:=omega)only[go_sem,e2]
  rfl
 ·simp
 ·intro i hi
  simp(disch:=omega)only[go_sem]
  refine QT (fun h=>?_) (fun h=>?_)
  ·have hd:=Qdm p l i (by omega)
   simp(disch:=omega)only[go_sem,e1]
   refine QQ (hg _ (gt_mem (by omega) h)) ?_
   simp(disch:=omega)only[go_sem]
   refine QaF (fun h2=>?_) (fun h2=>?_)
   ·simp(disch:=omega)only[go_sem]
    rw[hi.2,hd,if_pos h2]
   ·simp(disch:=omega)only[go_sem,e2]
    exact⟨i+1,by simp,⟨by omega,by rw[hi.2,hd,if_neg (by simp [h2])]⟩,by omega⟩
  ·simp(disch:=omega)only[go_sem]
   rw[hi.2,QD (by omega)]
   rfl
theorem JG(l:List Int)(hl:l.length≤QS)(g:Nat)(cs:List D)(hcs:cs.all YK=true)(p:Int→Bool)(hg:∀x,x∈l→FC Tryz.prog g (.int .i64 x::cs) (.bool (p x)) []):FC Tryz.prog 167 [.lst 1 (QR l),.clo g cs] (.bool (l.any p)) []:=by
 refine fo [] ?_ (hok:=(by simp only[List.all_cons,List.all_nil,Bool.and_true];exact ZN hcs))
 conv in fnC ..=>reduce
 simp(disch:=omega)only[go_sem,Qbo hcs]
 refine QQ (Qrz l hl g cs hcs p hg) ?_
 simp(disch:=omega)only[go_sem]
 rw[Qb5 _ _ _ (by omega)]
theorem QrA(l:List E)(hl:l.length≤QS)(g:Nat)(cs:List D)(hcs:cs.all YK=true)(p:E→Bool)(hg:∀x,x∈l→FC Tryz.prog g (edD x::cs) (.bool (p x)) []):FC Tryz.prog 255 [.lst 3 (eds l),.clo g cs] (.int .i64 (idx p l 0)) []:=by
 refine fo [] ?_ (hok:=(by simp only[List.all_cons,List.all_nil,Bool.and_true];exact ZN hcs))
 conv in fnC ..=>reduce
 unfold QS at hl
 have e1:=Qbp hcs
 have e2:=Qbq hcs
 simp(disch:=omega)only[go_sem]
 refine Xj (fun i:Nat=>⟨[(0,.lst 3 (eds l)),(1,.clo g cs),(7,.int .i64 l.length),(8,.int .i64 i)],[],0⟩) (fun i=>i≤l.length∧idx p l 0=idx p (l.drop i) i) (fun i=>l.length-i) 0 ?_ ?_ ?_
 ·simp(disch:=omega)only[go_sem,e2]
  rfl
 ·simp
 ·intro i hi
  simp(disch:=omega)only[go_sem]
  refine QT (fun h=>?_) (fun h=>?_)
  ·have hd:=Qdm p l i (by omega)
   simp(disch:=omega)only[go_sem,e1]
   refine QQ (hg _ (gt_mem (by omega) h)) ?_
   simp(disch:=omega)only[go_sem]
   refine QaF (fun h2=>?_) (fun h2=>?_)
   ·simp(disch:=omega)only[go_sem]
    rw[hi.2,hd,if_pos h2]
   ·simp(disch:=omega)only[go_sem,e2]
    exact⟨i+1,by simp,⟨by omega,by rw[hi.2,hd,if_neg (by simp [h2])]⟩,by omega⟩
  ·simp(disch:=omega)only[go_sem]
   rw[hi.2,QD (by omega)]
   rfl
theorem Qcc(l:List E)(hl:l.length≤QS)(g:Nat)(cs:List D)(hcs:cs.all YK=true)(p:E→Bool)(hg:∀x,x∈l→FC Tryz.prog g (edD x::cs) (.bool (p x)) []):FC Tryz.prog 170 [.lst 3 (eds l),.clo g cs] (.bool (l.any p)) []:=by
 refine fo [] ?_ (hok:=(by simp only[List.all_cons,List.all_nil,Bool.and_true];exact ZN hcs))
 conv in fnC ..=>reduce
 simp(disch:=omega)only[go_sem,Qbo hcs]
 refine QQ (QrA l hl g cs hcs p hg) ?_
 simp(disch:=omega)only[go_sem]
 rw[Qb5 _ _ _ (by omega)]
theorem QdA(n m:Int):FC Tryz.prog 169 [.int .i64 n,.int .i64 m] (.bool (decide (0≤n∧n≤m))) []:=by
 refine fo [] ?_
 conv in fnC ..=>reduce
 simp(disch:=omega)only[go_sem]
 refine QT (fun h=>?_) (fun h=>?_)
 ·simp(disch:=omega)only[go_sem,h]
 ·simp(disch:=omega)only[go_sem,h]
theorem QrB(x:Int):FC Tryz.prog 168 [.int .i64 x] (.bool (!decide (0≤x∧x≤99))) []:=by
 refine fo [] ?_
 conv in fnC ..=>reduce
 simp(disch:=omega)only[go_sem]
 refine QQ (QdA _ _) ?_
 simp(disch:=omega)only[go_sem]
theorem QrC(x:E)(n:Int)(hn:0≤n∧n≤1000000):FC Tryz.prog 172 [edD x,.int .i64 n] (.bool (Yx n x)) []:=by
 refine fo [] ?_
 conv in fnC ..=>reduce
 simp(disch:=omega)only[go_sem,edD]
 refine QQ (QdA _ _) ?_
 simp(disch:=omega)only[go_sem]
 refine QT (fun h1=>?_) (fun h1=>?_)
 ·simp(disch:=omega)only[go_sem,h1]
  refine QQ (QdA _ _) ?_
  simp(disch:=omega)only[go_sem,h1]
  refine QT (fun h2=>?_) (fun h2=>?_)
  ·simp(disch:=omega)only[go_sem,h2]
   refine QQ (QdA _ _) ?_
   simp(disch:=omega)only[go_sem,h2]
   simp [Yx,h1,h2]
  ·simp(disch:=omega)only[go_sem,h2]
   simp [Yx,h1,h2]
 ·simp(disch:=omega)only[go_sem,h1]
  simp [Yx,h1]
theorem QrD(x:E)(ns:List Int)(es:List E)(hn:ns.length≤1000000):FC Tryz.prog 171 [edD x,.ref [.lst 1 (QR ns),.lst 3 (eds es)]] (.bool (!Yx ns.length x)) []:=by
 refine fo [] ?_
 conv in fnC ..=>reduce
 simp(disch:=omega)only[go_sem,edD]
 refine QQ (QrC _ _ (by omega)) ?_
 simp(disch:=omega)only[go_sem]
theorem JH(g:G):FC Tryz.prog 84 [gD g] (.int .i64 (QZ g)) []:=by
 refine fo [] ?_
 conv in fnC ..=>reduce
 obtain⟨ns,es⟩:=g
 simp(disch:=omega)only[go_sem,gD]
 refine QT (fun a1=>?_) (fun a1=>?_)
 ·simp(disch:=omega)only[go_sem,a1]
  simp [QZ]
  omega
 ·simp(disch:=omega)only[go_sem,a1]
  refine QT (fun a2=>?_) (fun a2=>?_)
  ·simp(disch:=omega)only[go_sem]
   simp [QZ]
   omega
  ·simp(disch:=omega)only[go_sem]
   refine QQ (JG ns (by unfold QS;omega) _ [] rfl _ (fun x _=>QrB x)) ?_
   simp(disch:=omega)only[go_sem]
   refine QaF (fun a3=>?_) (fun a3=>?_)
   ·simp(disch:=omega)only[go_sem]
    have e:ns.all okN=false:=by
     rw[←Bool.not_eq_true,Qs]
     rw[List.any_eq_true] at a3
     obtain⟨x,hx,hp⟩:=a3
     exact fun h=>by have:=h x hx;simp [okN] at this hp;omega
    simp [QZ,a1,a2,e];omega
   ·have e:ns.all okN=true:=by
     rw[Qs]
     rw[List.any_eq_false] at a3
     exact fun x hx=>by have:=a3 x hx;simpa [okN] using this
    simp(disch:=omega)only[go_sem]
    refine QQ (Qcc es (by unfold QS;omega) _ _ rfl _ (fun x _=>QrD x ns es (by omega))) ?_
    simp(disch:=omega)only[go_sem]
    refine QaF (fun a4=>?_) (fun a4=>?_)
    ·simp(disch:=omega)only[go_sem]
     have e2:es.all (Yx ns.length)=false:=by
      rw[←Bool.not_eq_true,Qs]
      rw[List.any_eq_true] at a4
      obtain⟨x,hx,hp⟩:=a4
      exact fun h=>by have:=h x hx;simp [this] at hp
     simp [QZ,a1,a2,e,e2];omega
    ·simp(disch:=omega)only[go_sem]
     have e2:es.all (Yx ns.length)=true:=by
      rw[Qs]
      rw[List.any_eq_false] at a4
      exact fun x hx=>by have:=a4 x hx;simpa using this
     simp [QZ,a1,a2,e,e2];omega
theorem QjN(n:Int):FC Tryz.prog 91 [.int .i64 n] (.bool (okN n)) []:=by
 refine fo [] ?_
 conv in fnC ..=>reduce
 simp(disch:=omega)only[go_sem]
 refine QT (fun a=>?_) (fun a=>?_)
 ·simp(disch:=omega)only[go_sem,a]
  simp [okN,a]
 ·simp(disch:=omega)only[go_sem,a]
  simp [okN,a]
theorem QrE(x:E)(n:Int):FC Tryz.prog 92 [edD x,.int .i64 n] (.bool (Yx n x)) []:=by
 refine fo [] ?_
 conv in fnC ..=>reduce
 simp(disch:=omega)only[go_sem,edD]
 refine QQ (QjN _) ?_
 simp(disch:=omega)only[go_sem]
 refine QaF (fun a=>?_) (fun a=>?_)
 ·have a':0≤x.t∧x.t≤99:=by simpa [okN] using a
  simp(disch:=omega)only[go_sem,a]
  refine QT (fun b=>?_) (fun b=>?_)
  ·simp(disch:=omega)only[go_sem,b]
   refine QT (fun c=>?_) (fun c=>?_)
   ·simp(disch:=omega)only[go_sem,c]
    refine QT (fun d=>?_) (fun d=>?_)
    ·simp(disch:=omega)only[go_sem,d]
     have e1:decide (x.f≤n-1)=true:=by rw[Ql];omega
     have e2:decide (x.o<n)=decide (x.o≤n-1):=by rw[Bool.eq_iff_iff,Ql,Ql];omega
     simp only[Yx,Bool.decide_and,a',b,d,e1,e2,decide_true,Bool.true_and,Bool.and_true]
    ·simp(disch:=omega)only[go_sem,d]
     simp [Yx,a',d]
   ·simp(disch:=omega)only[go_sem,c]
    simp [Yx,a']
    omega
  ·simp(disch:=omega)only[go_sem,b]
   simp [Yx,a']
   omega
 ·have a':¬(0≤x.t∧x.t≤99):=by simpa [okN] using a
  simp(disch:=omega)only[go_sem,a]
  simp [Yx,a']
theorem Jn(g:G):FC Tryz.prog 45 [gD g] (.int .i64 (QZ g)) []:=by
 refine fo [[]] ?_
 conv in fnC ..=>reduce
 obtain⟨ns,es⟩:=g
 simp(disch:=omega)only[go_sem,gD]
 refine QT (fun a1=>?_) (fun a1=>?_)
 ·simp(disch:=omega)only[go_sem,a1]
  simp [QZ]
  omega
 ·simp(disch:=omega)only[go_sem,a1]
  refine QT (fun a2=>?_) (fun a2=>?_)
  ·simp(disch:=omega)only[go_sem]
   simp [QZ]
   omega
  ·have hv:QZ ⟨ns,es⟩=if ns.all okN&&es.all (Yx ns.length) then 0 else 6:=by
    simp only[QZ];rw[if_neg (by omega)]
   rw[hv]
   simp(disch:=omega)only[go_sem]
   refine Xj (fun i:Nat=>⟨[(1,.pt 0 0),(3,.int .i64 i)],[(0,.box [.lst 1 (QR ns),.lst 3 (eds es)])],1⟩) (fun i=>i≤ns.length∧ns.all okN=(ns.drop i).all okN) (fun i=>ns.length-i) 0 ?_ ?_ ?_
   ·simp(disch:=omega)only[go_sem]
    rfl
   ·simp
   ·intro i hi
    simp(disch:=omega)only[go_sem]
    refine QT (fun f=>?_) (fun f=>?_)
    ·have hd:=Z3 (l:=ns) (i:=i) (by omega)
     simp(disch:=omega)only[go_sem]
     refine QQ (QjN _) ?_
     simp(disch:=omega)only[go_sem]
     refine QiV (fun d=>?_) (fun d=>?_)
     ·simp(disch:=omega)only[go_sem]
      rw[hi.2,hd]
      simp [d]
     ·simp(disch:=omega)only[go_sem]
      exact⟨i+1,by simp,⟨by omega,by rw[hi.2,hd];simp [d]⟩,by omega⟩
    ·have hn:ns.all okN=true:=by rw[hi.2,QD (by omega)];rfl
     simp(disch:=omega)only[go_sem]
     refine Xj (fun i:Nat=>⟨[(1,.pt 0 0),(4,.int .i64 i)],[(0,.box [.lst 1 (QR ns),.lst 3 (eds es)])],1⟩) (fun i=>i≤es.length∧es.all (Yx ns.length)=(es.drop i).all (Yx ns.length)) (fun i=>es.length-i) 0 ?_ ?_ ?_
     ·simp(disch:=omega)only[go_sem]
      rfl
     ·simp
     ·intro i hi
      simp(disch:=omega)only[go_sem]
      refine QT (fun f=>?_) (fun f=>?_)
      ·have hd:=Z3 (l:=es) (i:=i) (by omega)
       simp(disch:=omega)only[go_sem]
       refine QQ (QrE _ _) ?_
       simp(disch:=omega)only[go_sem]
       refine QiV (fun d=>?_) (fun d=>?_)
       ·simp(disch:=omega)only[go_sem]
        rw[hi.2,hd]
        simp [d]
       ·simp(disch:=omega)only[go_sem]
        exact⟨i+1,by simp,⟨by omega,by rw[hi.2,hd];simp [d]⟩,by omega⟩
      ·simp(disch:=omega)only[go_sem]
       rw[hi.2,QD (by omega),hn]
       rfl
theorem QaJ(g:G)(h0:g.n.length≤1000000)(h1:g.e.length≤1000000):FC Tryz.prog 46 [gD g] (gA g) []:=by
 refine fo [[(2,(some 2),[],false),(3,none,[],true),(6,(some 32),[3],false)]] ?_
 conv in fnC ..=>reduce
 obtain⟨ns,es⟩:=g
 simp only at h0 h1
 simp(disch:=omega)only[go_sem,gD,gA]
theorem QrF(f:Int)(n:Nat)(h0:0≤f)(h1:f≤1000000)(h2:n≤1000000):FC Tryz.prog 47 [.int .i64 f,.int .i64 n] (.arr 1 (QR (QY f n))) []:=by
 refine fo [] ?_
 conv in fnC ..=>reduce
 simp(disch:=omega)only[go_sem]
 refine Xj (fun i:Nat=>⟨[(0,.int .i64 f),(1,.int .i64 n),(5,.sl 0 0 i),(6,.int .i64 i)],[(0,.arr 1 (QR (QY f i)))],1⟩) (fun i=>i≤n) (fun i=>n-i) 0 ?_ ?_ ?_
 ·simp(disch:=omega)only[go_sem,Qji,Z2]
  rfl
 ·omega
 ·intro i hi
  have e1:=Yp f i
  simp(disch:=omega)only[go_sem]
  refine QT (fun a=>?_) (fun a=>?_)
  ·simp(disch:=omega)only[go_sem,e1]
   exact⟨i+1,by simp [Qdn],by omega,by omega⟩
  ·obtain rfl:i=n:=by omega
   simp(disch:=omega)only[go_sem,e1]
theorem QrG(a b:List Int)(hl:a.length≤QS):FC Tryz.prog 74 [.lst 1 (QR a),.lst 1 (QR b)] (.bool (decide (a=b))) []:=by
 refine fo [[]] ?_
 conv in fnC ..=>reduce
 unfold QS at hl
 simp(disch:=omega)only[go_sem]
 refine XY (fun h=>?_) (fun h=>?_)
 ·simp(disch:=omega)only[go_sem]
  have:a≠b:=fun e=>h (by rw[e])
  simp [this]
 ·have h':a.length=b.length:=by omega
  simp(disch:=omega)only[go_sem]
  refine Xj (fun i:Nat=>⟨[(0,.lst 1 (QR a)),(1,.lst 1 (QR b)),(5,.int .i64 i)],[],0⟩) (fun i=>i≤a.length∧a.take i=b.take i) (fun i=>a.length-i) 0 ?_ ?_ ?_
  ·simp(disch:=omega)only[go_sem]
   rfl
  ·simp
  ·intro i hi
   simp(disch:=omega)only[go_sem]
   refine QT (fun c=>?_) (fun c=>?_)
   ·simp(disch:=omega)only[go_sem]
    refine XY (fun d=>?_) (fun d=>?_)
    ·simp(disch:=omega)only[go_sem]
     have:a≠b:=fun e=>d (by rw[e])
     simp [this]
    ·simp(disch:=omega)only[go_sem]
     exact⟨i+1,by simp,⟨by omega,by rw[Xm (by omega),Xm (by omega),hi.2,d]⟩,by omega⟩
   ·simp(disch:=omega)only[go_sem]
    obtain rfl:i=a.length:=by omega
    have:=hi.2
    rw[List.take_length,Qq (by omega)] at this
    simp [this]
theorem Qcd(l:List Int)(x:Int)(hl:l.length≤QS):FC Tryz.prog 50 [.lst 1 (QR l),.int .i64 x] (.int .i64 (idx (fun y=>decide (x=y)) l 0)) []:=by
 refine fo [] ?_
 conv in fnC ..=>reduce
 unfold QS at hl
 simp(disch:=omega)only[go_sem]
 refine Xj (fun i:Nat=>⟨[(0,.lst 1 (QR l)),(1,.int .i64 x),(7,.int .i64 l.length),(8,.int .i64 i)],[],0⟩) (fun i=>i≤l.length∧idx (fun y=>decide (x=y)) l 0=idx (fun y=>decide (x=y)) (l.drop i) i) (fun i=>l.length-i) 0 ?_ ?_ ?_
 ·simp(disch:=omega)only[go_sem]
  rfl
 ·simp
 ·intro i hi
  simp(disch:=omega)only[go_sem]
  refine QT (fun h=>?_) (fun h=>?_)
  ·have hd:=Qdm (fun y=>decide (x=y)) l i (by omega)
   simp(disch:=omega)only[go_sem]
   refine QT (fun h2=>?_) (fun h2=>?_)
   ·simp(disch:=omega)only[go_sem]
    rw[hi.2,hd,if_pos (by simpa using h2)]
   ·simp(disch:=omega)only[go_sem]
    exact⟨i+1,by simp,⟨by omega,by rw[hi.2,hd,if_neg (by simpa using h2)]⟩,by omega⟩
  ·simp(disch:=omega)only[go_sem]
   rw[hi.2,QD (by omega)]
   rfl
theorem Zw(l:List Int)(x:Int)(hl:l.length≤QS):FC Tryz.prog 70 [.lst 1 (QR l),.int .i64 x] (.bool (decide (x∈l))) []:=by
 refine fo [] ?_
 conv in fnC ..=>reduce
 simp(disch:=omega)only[go_sem]
 refine QQ (Qcd l x hl) ?_
 simp(disch:=omega)only[go_sem]
 rw[Qb5 _ _ _ (by omega)]
 simp [List.any_eq]
theorem Z4(l:List Int)(hl:l.length≤10000000000000):FC Tryz.prog 179 [.lst 1 (QR l)] (.arr 1 (QR l)) []:=by
 refine fo [] ?_
 conv in fnC ..=>reduce
 simp(disch:=omega)only[go_sem]
 refine Qdi (fun h=>?_) (fun _=>?_)
 ·have:l=[]:=by simpa [QR] using h
  subst this
  simp(disch:=omega)only[go_sem,Z2]
 ·simp(disch:=omega)only[go_sem]
theorem QfZ(l:List E)(hl:l.length≤1000000000000):FC Tryz.prog 232 [.lst 3 (eds l)] (.arr 3 (eds l)) []:=by
 refine fo [] ?_
 conv in fnC ..=>reduce
 simp(disch:=omega)only[go_sem]
 refine Qdi (fun h=>?_) (fun _=>?_)
 ·have:l=[]:=by simpa [eds] using h
  subst this
  have e:eds []=[]:=rfl
  simp(disch:=omega)only[go_sem,e]
 ·simp(disch:=omega)only[go_sem]
theorem ZC(a b:List Int)(hl:a.length≤QS):FC Tryz.prog 229 [.lst 1 (QR a),.lst 1 (QR b)] (.bool (decide (a=b))) []:=by
 refine fo [[]] ?_
 conv in fnC ..=>reduce
 unfold QS at hl
 simp(disch:=omega)only[go_sem]
 refine XY (fun h=>?_) (fun h=>?_)
 ·simp(disch:=omega)only[go_sem]
  have:a≠b:=fun e=>h (by rw[e])
  simp [this]
 ·have h':a.length=b.length:=by omega
  simp(disch:=omega)only[go_sem]
  refine Xj (fun i:Nat=>⟨[(0,.lst 1 (QR a)),(1,.lst 1 (QR b)),(12,.int .i64 a.length),(13,.int .i64 i)],[],0⟩) (fun i=>i≤a.length∧a.take i=b.take i) (fun i=>a.length-i) 0 ?_ ?_ ?_
  ·simp(disch:=omega)only[go_sem]
   rfl
  ·simp
  ·intro i hi
   simp(disch:=omega)only[go_sem]
   refine QT (fun c=>?_) (fun c=>?_)
   ·simp(disch:=omega)only[go_sem]
    refine XY (fun d=>?_) (fun d=>?_)
    ·simp(disch:=omega)only[go_sem]
     have:a≠b:=fun e=>d (by rw[e])
     simp [this]
    ·simp(disch:=omega)only[go_sem]
     exact⟨i+1,by simp,⟨by omega,by rw[Xm (by omega),Xm (by omega),hi.2,d]⟩,by omega⟩
   ·simp(disch:=omega)only[go_sem]
    obtain rfl:i=a.length:=by omega
    have:=hi.2
    rw[List.take_length,Qq (by omega)] at this
    simp [this]
theorem Qf0(a b:List E)(hl:a.length≤QS):FC Tryz.prog 248 [.lst 3 (eds a),.lst 3 (eds b)] (.bool (decide (a=b))) []:=by
 refine fo [[]] ?_
 conv in fnC ..=>reduce
 unfold QS at hl
 simp(disch:=omega)only[go_sem]
 refine XY (fun h=>?_) (fun h=>?_)
 ·simp(disch:=omega)only[go_sem]
  have:a≠b:=fun e=>h (by rw[e])
  simp [this]
 ·have h':a.length=b.length:=by omega
  simp(disch:=omega)only[go_sem]
  refine Xj (fun i:Nat=>⟨[(0,.lst 3 (eds a)),(1,.lst 3 (eds b)),(12,.int .i64 a.length),(13,.int .i64 i)],[],0⟩) (fun i=>i≤a.length∧a.take i=b.take i) (fun i=>a.length-i) 0 ?_ ?_ ?_
  ·simp(disch:=omega)only[go_sem]
   rfl
  ·simp
  ·intro i hi
   simp(disch:=omega)only[go_sem]
   refine QT (fun c=>?_) (fun c=>?_)
   ·have he:(decide ((gt a i).t=(gt b i).t)&&(decide ((gt a i).f=(gt b i).f)&&decide ((gt a i).o=(gt b i).o)))=decide (gt a i=gt b i):=by
     rw[Bool.eq_iff_iff];simp [eqE]
    simp(disch:=omega)only[go_sem,he]
    refine XY (fun d=>?_) (fun d=>?_)
    ·simp(disch:=omega)only[go_sem]
     have:a≠b:=fun e=>d (by rw[e])
     simp [this]
    ·simp(disch:=omega)only[go_sem]
     exact⟨i+1,by simp,⟨by omega,by rw[Xm (by omega),Xm (by omega),hi.2,d]⟩,by omega⟩
   ·simp(disch:=omega)only[go_sem]
    obtain rfl:i=a.length:=by omega
    have:=hi.2
    rw[List.take_length,Qq (by omega)] at this
    simp [this]
theorem QrH(a b:G)(h3:a.n.length≤QS)(h4:a.e.length≤QS):FC Tryz.prog 329 [gD a,gD b] (.bool (decide (a=b))) []:=by
 refine fo [] ?_
 conv in fnC ..=>reduce
 obtain⟨an,ae⟩:=a
 obtain⟨bn,be⟩:=b
 simp only at h3 h4
 simp(disch:=omega)only[go_sem,gD]
 refine QQ (ZC _ _ h3) ?_
 simp(disch:=omega)only[go_sem]
 refine QT (fun c=>?_) (fun c=>?_)
 ·subst c
  simp(disch:=omega)only[go_sem]
  refine QQ (Qf0 _ _ h4) ?_
  simp(disch:=omega)only[go_sem]
  simp
 ·simp(disch:=omega)only[go_sem,c]
  simp [c]
theorem QdB(g:G):FC Tryz.prog 37 [gD g] (.bool (few g)) []:=by
 refine fo [] ?_
 conv in fnC ..=>reduce
 obtain⟨ns,es⟩:=g
 simp(disch:=omega)only[go_sem,gD]
 refine QT (fun a=>?_) (fun a=>?_)
 ·simp(disch:=omega)only[go_sem,a]
  have:ns.length≤45:=by omega
  simp [few,this]
  omega
 ·simp(disch:=omega)only[go_sem,a]
  have:¬ns.length≤45:=by omega
  simp [few,this]
theorem QrI(a b:List Int)(hl:a.length≤QS):FC Tryz.prog 208 [.lst 1 (QR a),.lst 1 (QR b)] (.bool (decide (a=b))) []:=by
 refine fo [[]] ?_
 conv in fnC ..=>reduce
 unfold QS at hl
 simp(disch:=omega)only[go_sem]
 refine XY (fun h=>?_) (fun h=>?_)
 ·simp(disch:=omega)only[go_sem]
  have:a≠b:=fun e=>h (by rw[e])
  simp [this]
 ·have h':a.length=b.length:=by omega
  simp(disch:=omega)only[go_sem]
  refine Xj (fun i:Nat=>⟨[(0,.lst 1 (QR a)),(1,.lst 1 (QR b)),(5,.int .i64 i)],[],0⟩) (fun i=>i≤a.length∧a.take i=b.take i) (fun i=>a.length-i) 0 ?_ ?_ ?_
  ·simp(disch:=omega)only[go_sem]
   rfl
  ·simp
  ·intro i hi
   simp(disch:=omega)only[go_sem]
   refine QT (fun c=>?_) (fun c=>?_)
   ·simp(disch:=omega)only[go_sem]
    refine XY (fun d=>?_) (fun d=>?_)
    ·simp(disch:=omega)only[go_sem]
     have:a≠b:=fun e=>d (by rw[e])
     simp [this]
    ·simp(disch:=omega)only[go_sem]
     exact⟨i+1,by simp,⟨by omega,by rw[Xm (by omega),Xm (by omega),hi.2,d]⟩,by omega⟩
   ·simp(disch:=omega)only[go_sem]
    obtain rfl:i=a.length:=by omega
    have:=hi.2
    rw[List.take_length,Qq (by omega)] at this
    simp [this]
def YP(l:List Int)(k:Int):Nat→Int
 |0=> -1
 |i+1=>if gt l i=k then i else YP l k i
def Qah(l:List Int)(n:Nat):List Int:=(List.range n).map fun k:Nat=>YP l k l.length
section
variable {P:Program} {F:String→Nat} {α:Type}
theorem QjO{l:List Int}(hn:l.Nodup):∀n,n≤l.length→∀j:Nat,j<n→YP l (gt l j) n=j
 |0,_,_,h=>by omega
 |n+1,hl,j,hj=>by
  rw[YP]
  by_cases h:j=n
  ·subst h;rw[if_pos rfl]
  ·rw[if_neg (fun he=>h (Zi hn (by omega) (by omega) he).symm)]
   exact QjO hn n (by omega) j (by omega)
theorem QrJ(l:List Int)(n:Nat):(Qah l n).length=n:=by simp [Qah]
theorem QrK{l:List Int}{n k:Nat}(h:k<n):gt (Qah l n) k=YP l k l.length:=by
 unfold Qah
 rw[QV (by simp;exact h)]
 simp
theorem QrL{l:List Int}(hn:l.Nodup)(hb:∀x∈l,0≤x∧x<l.length)(k:Nat)(hk:k<l.length):∃j:Nat,j<l.length∧gt l j=k:=
 Xk ((Qrj (n:=l.length) hb).1 (imgs_inj.2 hn) k hk)
end
def YA{α:Type}[Inhabited α](l:List α)(q:List Int)(z:List α):Nat→List α
 |0=>z
 |i+1=>(YA l q z i).set (gt q i).toNat (gt l i)
section
theorem QrM{x:Int}(h:0≤x):∃k:Nat,x=(k:Int):=⟨x.toNat,by omega⟩
theorem Qai{α:Type}[Inhabited α](l:List α)(q:List Int)(z:List α):∀i:Nat,(YA l q z i).length=z.length
 |0=>rfl
 |i+1=>by rw[YA,QN,Qai l q z i]
theorem QrN{α:Type}[Inhabited α]{l:List α}{k i:Nat}{v:α}(hi:i<l.length):gt (l.set k v) i=if k=i then v else gt l i:=by
 rw[QV (by simpa using hi),QV hi,List.getElem_set]
end
def reE(q:List Int)(es:List E):List E:=es.map fun x=>⟨x.t,gt q x.f,gt q x.o⟩
section
theorem QjP{q:List Int}{es:List E}{i:Nat}(h:i<es.length):gt (reE q es) i=⟨(gt es i).t,gt q (gt es i).f,gt q (gt es i).o⟩:=by
 unfold reE
 rw[ZB h]
end
section
theorem Qce{α:Type}[Inhabited α]{l m:List α}{i:Nat}(h:i<l.length):gt (l++m) i=gt l i:=by
 rw[QV (by simp;omega),QV h,List.getElem_append_left h]
theorem QrO{a b c:G}{m n:Mo}(hm:MOk a b m)(hn:MOk b c n):MOk a c (Jl m n):=by
 have l1:=hm.ln
 have l2:=hm.le
 refine⟨hm.va,hn.vb,by simp only[Jl,X4];exact l1,by simp only[Jl,X4];exact l2,fun i hi=>?_,fun i hi=>?_⟩
 ·obtain⟨h1,h2⟩:=hm.nd i hi
  obtain⟨k,hk,hk2⟩:=gtI h1
  simp only[Jl]
  rw[X5 (by omega),hk2]
  rw[hk2] at h2
  obtain⟨h3,h4⟩:=hn.nd k hk
  exact⟨h3,by rw[h4,h2]⟩
 ·obtain⟨h1,h2,h3,h4⟩:=hm.ed i hi
  obtain⟨k,hk,hk2⟩:=gtI h1
  obtain⟨_,f1,f2⟩:=Zj hm.va (i:=i) (by omega)
  obtain⟨p,hp,hp2⟩:=gtI f1
  obtain⟨q,hq,hq2⟩:=gtI f2
  simp only[Jl]
  rw[X5 (by omega),hk2]
  rw[hk2] at h2 h3 h4
  obtain⟨g1,g2,g3,g4⟩:=hn.ed k hk
  refine⟨g1,by rw[h2,g2],?_,?_⟩
  ·rw[hp2,X5 (by omega),←g3,←h3,hp2]
  ·rw[hq2,X5 (by omega),←g4,←h4,hq2]
end
structure Emb(a b:G)(m:Mo):Prop where
 ok:MOk a b m
 jn:∀i k:Nat,i<a.n.length→k<a.n.length→gt m.n (i:Int)=gt m.n (k:Int)→i=k
 je:∀i k:Nat,i<a.e.length→k<a.e.length→gt m.e (i:Int)=gt m.e (k:Int)→i=k
section
theorem Emb.comp{a b c:G}{m n:Mo}(h:Emb a b m)(k:Emb b c n):Emb a c (Jl m n):=by
 have l1:=h.ok.ln
 have l2:=h.ok.le
 refine⟨QrO h.ok k.ok,fun i j hi hj e=>?_,fun i j hi hj e=>?_⟩
 ·simp only[Jl] at e
  rw[X5 (by omega),X5 (by omega)] at e
  obtain⟨u,hu,hu2⟩:=gtI (h.ok.nd i hi).1
  obtain⟨v,hv,hv2⟩:=gtI (h.ok.nd j hj).1
  rw[hu2,hv2] at e
  have:=k.jn u v hu hv e
  exact h.jn i j hi hj (by rw[hu2,hv2,this])
 ·simp only[Jl] at e
  rw[X5 (by omega),X5 (by omega)] at e
  obtain⟨u,hu,hu2⟩:=gtI (h.ok.ed i hi).1
  obtain⟨v,hv,hv2⟩:=gtI (h.ok.ed j hj).1
  rw[hu2,hv2] at e
  have:=k.je u v hu hv e
  exact h.je i j hi hj (by rw[hu2,hv2,this])
end
end Go.Am
