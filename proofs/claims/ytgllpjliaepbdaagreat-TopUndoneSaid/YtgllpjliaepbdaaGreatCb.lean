/- Contracts and what they rest on: Cb. -/
import Derived.Test.YtgllpjliaepbdaaGreatCa
import Derived.Test.YtgllpjliaepbdaaGreatAmPi
set_option linter.unusedVariables false
set_option linter.unusedSimpArgs false
set_option linter.unnecessarySimpa false
open Go Go.Proofs
namespace Go.Am
set_option maxRecDepth 100000
attribute [local irreducible] W
def bls(l:List Bool):List D:=l.map .bool
theorem QjQ(l:List Bool):(bls l).length=l.length:=by simp [bls]
theorem Qf1{l:List Bool}{j:Int}(h0:0≤j)(h:j<l.length):(bls l)[j.toNat]?=some (.bool (gt l j)):=by
 unfold bls
 rw[List.getElem?_map,Qbn h0 h];rfl
theorem QjR{l:List Bool}{i:Nat}(h:i<l.length):(bls l)[i]?=some (.bool (gt l i)):=by
 have:=Qf1 (l:=l) (j:=i) (by omega) (by omega)
 simpa using this
theorem Qf2{l:List Bool}{i:Nat}{b:Bool}:(bls l).set i (.bool b)=bls (l.set i b):=by simp [bls,List.map_set]
theorem QjS{n:Nat}{b:Bool}:List.replicate n (.bool b)=bls (List.replicate n b):=by simp [bls]
attribute [go_sem] QjQ Qf1 Qf2 QjS
attribute [go_sem low] QjR
structure AscL(l:List Int)(n:Nat):Prop where
 p:l.Pairwise (·<·)
 b:∀x∈l,0≤x∧x<n
def ZD(g:G)(p:Mo):Bool:=p.e.any fun x=>!(decide ((gt g.e x).f∈p.n)&&decide ((gt g.e x).o∈p.n))
def Jo(g:G)(p:Mo):Int:=if XN g.n.length none p.n≠0 then XN g.n.length none p.n else if XN g.e.length none p.e≠0 then XN g.e.length none p.e else if ZD g p=true then 14 else 0
def Yz(g:G)(p:Mo):Int:=if QZ g≠0 then QZ g else Jo g p
structure PK(g:G)(p:Mo):Prop where
 v:QZ g=0
 n:AscL p.n g.n.length
 e:AscL p.e g.e.length
 d:∀x∈p.e,(gt g.e x).f∈p.n∧(gt g.e x).o∈p.n
def YE(g:G)(es:List Int):List Int:=es.flatMap fun x=>[(gt g.e x).f,(gt g.e x).o]
def Qcf(g:G)(ns es:List Int):Mo:=⟨sel (fun k:Nat=>decide ((k:Int)∈ns)||decide ((k:Int)∈YE g es)) g.n.length,sel (fun k:Nat=>decide ((k:Int)∈es)) g.e.length⟩
section
theorem QaK{α:Type}[Inhabited α]{l:List α}{k i:Nat}{v:α}(hi:i<l.length):gt (l.set k v) i=if k=i then v else gt l i:=by
 rw[QV (by simpa using hi),QV hi,List.getElem_set]
theorem sel_mem{p:Nat→Bool}{n:Nat}{x:Int}:x∈sel p n↔∃k:Nat,k<n∧p k=true∧x=k:=by
 unfold sel
 simp only[Qv,List.mem_filter,List.mem_range]
 exact⟨fun⟨k,⟨h1,h2⟩,h3⟩=>⟨k,h1,h2,h3.symm⟩,fun⟨k,h1,h2,h3⟩=>⟨k,⟨h1,h2⟩,h3.symm⟩⟩
theorem sel_memN{p:Nat→Bool}{n k:Nat}:(k:Int)∈sel p n↔k<n∧p k=true:=by
 rw[sel_mem]
 constructor
 ·rintro⟨j,h1,h2,h3⟩
  obtain rfl:k=j:=by omega
  exact⟨h1,h2⟩
 ·rintro⟨h1,h2⟩
  exact⟨k,h1,h2,rfl⟩
theorem JI(p:Nat→Bool)(n:Nat):(sel p n).Pairwise (·<·):=by
 unfold sel
 rw[List.pairwise_map]
 exact (List.pairwise_lt_range.sublist List.filter_sublist).imp fun h=>by omega
theorem QdC(p:Nat→Bool)(n:Nat):AscL (sel p n) n:=⟨JI p n,fun x hx=>by obtain⟨k,h1,_,rfl⟩:=sel_mem.1 hx;omega⟩
theorem QaL:∀{a b:List Int},a.Pairwise (·<·)→b.Pairwise (·<·)→(∀x,x∈a↔x∈b)→a=b
 |[],[],_,_,_=>rfl
 |[],y::b,_,_,h=>absurd ((h y).2 (by simp)) (by simp)
 |x::a,[],_,_,h=>absurd ((h x).1 (by simp)) (by simp)
 |x::a,y::b,ha,hb,h=>by
  rw[List.pairwise_cons] at ha hb
  have e:x=y:=by
   have h1:=(h x).1 (by simp)
   have h2:=(h y).2 (by simp)
   simp only[Qh] at h1 h2
   rcases h1 with h1|h1
   ·exact h1
   rcases h2 with h2|h2
   ·exact h2.symm
   have:=hb.1 x h1
   have:=ha.1 y h2
   omega
  subst e
  rw[QaL ha.2 hb.2 fun z=>?_]
  have hz:=h z
  simp only[Qh] at hz
  constructor
  ·intro m
   rcases hz.1 (.inr m) with r|r
   ·have:=ha.1 z m;omega
   ·exact r
  ·intro m
   rcases hz.2 (.inr m) with r|r
   ·have:=hb.1 z m;omega
   ·exact r
theorem Qf3:∀{b a:List Int},a.Pairwise (·<·)→b.Pairwise (·<·)→(∀x∈a,x∈b)→a.length≤b.length∧(a.length=b.length→a=b)
 |[],a,_,_,h=>by
  cases a with
  |nil=>simp
  |cons x a=>exact absurd (h x (by simp)) (by simp)
 |y::b,[],_,_,_=>by simp
 |y::b,x::a,ha,hb,h=>by
  have ha':=ha
  rw[List.pairwise_cons] at ha hb
  by_cases e:x=y
  ·subst e
   have ih:=Qf3 (b:=b) (a:=a) ha.2 hb.2 fun z hz=>by
    have:=h z (by simp [hz])
    simp only[Qh] at this
    rcases this with r|r
    ·have:=ha.1 z hz;omega
    ·exact r
   simp only[List.length_cons]
   exact⟨by omega,fun q=>by rw[ih.2 (by omega)]⟩
  ·have hx:x∈b:=by
    have:=h x (by simp)
    simp only[Qh] at this
    rcases this with r|r
    ·exact absurd r e
    ·exact r
   have hyx:=hb.1 x hx
   have ih:=Qf3 (b:=b) (a:=x::a) ha' hb.2 fun z hz=>by
    have:=h z hz
    simp only[Qh] at this hz
    rcases this with r|r
    ·rcases hz with s|s
     ·omega
     ·have:=ha.1 z s;omega
    ·exact r
   simp only[List.length_cons] at ih ⊢
   exact⟨by omega,fun q=>by omega⟩
theorem ascG_iff{n:Nat}:∀{l:List Int},XN n none l=0↔AscL l n:=fun {l}=>by
 constructor
 ·intro h
  obtain⟨h1,_,h3⟩:=Qjk n l none h
  exact⟨h3,fun x hx=>by have:=h1 x hx;omega⟩
 ·rintro⟨h1,h2⟩
  have gen:∀(l:List Int)(q:Option Int),l.Pairwise (·<·)→(∀x∈l,0≤x∧x<n)→(∀z,q=some z→∀x∈l,z<x)→XN n q l=0:=by
   intro l
   induction l with
   |nil=>intro q _ _ _;rfl
   |cons x l ih=>
    intro q hp hb hq
    rw[List.pairwise_cons] at hp
    have hx:=hb x (by simp)
    have hle:leO x q=false:=by
     cases q with
     |none=>rfl
     |some z=>
      have:=hq z rfl x (by simp)
      simp only[leO,QL]
      omega
    have:=ih (some x) hp.2 (fun y hy=>hb y (by simp [hy])) (fun z hz y hy=>by cases hz;exact hp.1 y hy)
    simp only[XN]
    rw[if_pos (by omega),hle]
    simpa using this
  exact gen l none h1 h2 (fun z hz=>by cases hz)
theorem validP_ok{g:G}{p:Mo}:Yz g p=0↔PK g p:=by
 unfold Yz
 split
 ·rename_i h;exact⟨fun e=>absurd e h,fun e=>absurd e.v h⟩
 rename_i h1
 unfold Jo
 split
 ·rename_i h;exact⟨fun e=>absurd e h,fun e=>absurd (ascG_iff.2 e.n) h⟩
 rename_i h2
 split
 ·rename_i h;exact⟨fun e=>absurd e h,fun e=>absurd (ascG_iff.2 e.e) h⟩
 rename_i h3
 split
 ·rename_i h
  refine⟨fun e=>absurd e (by decide),fun e=>?_⟩
  unfold ZD at h
  rw[List.any_eq_true] at h
  obtain⟨x,hx,hd⟩:=h
  have:=e.d x hx
  simp [this] at hd
 ·rename_i h
  refine⟨fun _=>⟨QJ.1 h1,ascG_iff.1 (QJ.1 h2),ascG_iff.1 (QJ.1 h3),fun x hx=>?_⟩,fun _=>rfl⟩
  unfold ZD at h
  rw[Bool.not_eq_true,List.any_eq_false] at h
  have:=h x hx
  simpa using this
theorem Z5{l:List Int}{n:Nat}(h:AscL l n):l.length≤n:=by
 have:=(Qf3 (b:=QY 0 n) h.p (by
  unfold QY
  rw[List.pairwise_map]
  exact List.pairwise_lt_range.imp fun h=>by omega) fun x hx=>nums_mem.2 (h.b x hx)).1
 rwa [Yp] at this
theorem PK.len{g:G}{p:Mo}(h:PK g p):p.n.length≤40∧p.e.length≤80:=by
 have:=XZ h.v
 have:=Z5 h.n
 have:=Z5 h.e
 omega
theorem ends_mem{g:G}{es:List Int}{x:Int}:x∈YE g es↔∃e∈es,(gt g.e e).f=x∨(gt g.e e).o=x:=by
 unfold YE
 simp only[Qr,Qh,List.not_mem_nil,or_false]
 exact⟨fun⟨e,h1,h2⟩=>⟨e,h1,h2.imp Eq.symm Eq.symm⟩,fun⟨e,h1,h2⟩=>⟨e,h1,h2.imp Eq.symm Eq.symm⟩⟩
theorem QrP{g:G}{ns es:List Int}(hv:QZ g=0):PK g (Qcf g ns es):=by
 refine⟨hv,QdC _ _,QdC _ _,fun x hx=>?_⟩
 obtain⟨k,hk,hk2,rfl⟩:=sel_mem.1 hx
 simp only[Ql] at hk2
 obtain⟨_,t2,t3⟩:=Zj hv (i:=k) (by omega)
 obtain⟨a,ha,ha2⟩:=gtI t2
 obtain⟨b,hb,hb2⟩:=gtI t3
 simp only[Qcf]
 rw[ha2,hb2,sel_memN,sel_memN]
 refine⟨⟨ha,?_⟩,hb,?_⟩
 ·simp only[QG,Ql]
  exact .inr (ends_mem.2 ⟨k,hk2,.inl ha2⟩)
 ·simp only[QG,Ql]
  exact .inr (ends_mem.2 ⟨k,hk2,.inr hb2⟩)
theorem QjT{x y:Mo}(h1:x.n=y.n)(h2:x.e=y.e):x=y:=by cases x;cases y;simp only at h1 h2;rw[h1,h2]
end
def Xq(l:List Int)(x:Int):Nat:=(l.filter fun y=>decide (y<x)).length
section
variable {P:Program} {F:String→Nat} {α:Type}
theorem Qf4{l:List Int}{n:Int}{i:Nat}(h:i<l.length):n∈l.take (i+1)↔n∈l.take i∨gt l i=n:=by
 rw[Xm h];simp [eq_comm]
theorem QaM{l:List Int}(h:l.Pairwise (·<·)){i j:Nat}(hij:i<j)(hj:j<l.length):gt l i<gt l j:=by
 rw[QV (by omega),QV hj]
 exact List.pairwise_iff_getElem.1 h i j (by omega) hj hij
theorem QjU{l:List Int}{x:Int}(hp:l.Pairwise (·<·)){i:Nat}(hi:i≤l.length)(h1:∀k:Nat,k<i→gt l k<x)(h2:∀k:Nat,i≤k→k<l.length→x≤gt l k):Xq l x=i∧(x∈l↔i<l.length∧gt l i=x):=by
 constructor
 ·unfold Xq
  conv=>lhs;rw[←List.take_append_drop i l]
  rw[List.filter_append,Qj]
  have e1:(l.take i).filter (fun y=>decide (y<x))=l.take i:=List.filter_eq_self.2 fun y hy=>by
   obtain⟨k,hk,rfl⟩:=List.mem_take_iff_getElem.1 hy
   have:=h1 k (by omega)
   rw[QV (by omega)] at this
   simpa using this
  have e2:(l.drop i).filter (fun y=>decide (y<x))=[]:=List.filter_eq_nil_iff.2 fun y hy=>by
   obtain⟨k,hk,rfl⟩:=List.mem_drop_iff_getElem.1 hy
   have:=h2 (i+k) (by omega) (by omega)
   rw[QV (by omega)] at this
   simpa using this
  rw[e1,e2];simp;omega
 ·constructor
  ·intro hx
   obtain⟨k,hk,hk2⟩:=Xk hx
   by_cases c:k<i
   ·have:=h1 k c;omega
   ·by_cases d:k=i
    ·subst d;exact⟨hk,hk2⟩
    ·have:=QaM hp (i:=i) (j:=k) (by omega) hk
     have:=h2 i (by omega) (by omega)
     omega
  ·rintro⟨h,e⟩
   rw[←e];exact gt_mem (by omega) (by omega)
end
structure Cx where
 l:G
 g:G
 k:Mo
 m:Mo
 deriving DecidableEq,Inhabited
def cxD(x:Cx):D:=.agg [.lst 1 (QR x.l.n),.lst 3 (eds x.l.e),.lst 1 (QR x.g.n),.lst 3 (eds x.g.e),.lst 1 (QR x.k.n),.lst 1 (QR x.k.e),.lst 1 (QR x.m.n),.lst 1 (QR x.m.e)]
def cxE(x:Cx):Int:=if Yc x.l x.g x.m≠0 then Yc x.l x.g x.m else Yz x.l x.k
def Yt(im keep:List Int):Nat→List Int
 |0=>[]
 |i+1=>if (i:Int)∈keep then Yt im keep i else Yt im keep i++[gt im i]
def Xg(im keep:List Int):List Int:=Yt im keep im.length
def Za(g:G)(gone me:List Int)(i:Nat):Bool:=!decide ((i:Int)∈me)&&(decide ((gt g.e i).f∈gone)||decide ((gt g.e i).o∈gone))
def QrQ(g:G)(gone me:List Int):List Int:=sel (Za g gone me) g.e.length
def idP(im keep:List Int)(i k:Nat):Bool:=decide (gt im i=gt im k)&&(!decide ((i:Int)∈keep)||!decide ((k:Int)∈keep))
def idR(im keep:List Int)(i:Nat):Nat→List Pr
 |0=>[]
 |k+1=>if i<k∧idP im keep i k=true then idR im keep i k++[⟨i,k⟩] else idR im keep i k
def idA(im keep:List Int):Nat→List Pr
 |0=>[]
 |i+1=>idA im keep i++idR im keep i im.length
def idL(im keep:List Int):List Pr:=idA im keep im.length
def Yu(n:Nat)(gone:List Int):List Int:=sel (fun i:Nat=>!decide ((i:Int)∈gone)) n
def Y2(x:Cx):List Int:=QrQ x.g (Xg x.m.n x.k.n) x.m.e
section
variable (P:Program) (F:String→Nat)
def Cx.sm(x:Cx):Prop:=x.k.n.length≤QS∧x.k.e.length≤QS
end
section
variable {P:Program} {F:String→Nat} {α:Type}
theorem QdD(im keep:List Int):∀i,(Yt im keep i).length≤i
 |0=>by simp [Yt]
 |i+1=>by rw[Yt];have:=QdD im keep i;split<;>simp<;>omega
theorem QjV{im keep:List Int}{x:Int}:∀{n:Nat},x∈Yt im keep n↔∃i:Nat,i<n∧¬(i:Int)∈keep∧gt im i=x
 |0=>by simp [Yt]
 |n+1=>by
  rw[Yt]
  have ih:=QjV (im:=im) (keep:=keep) (x:=x) (n:=n)
  split
  ·rename_i h
   rw[ih]
   constructor
   ·rintro⟨i,h1,h2⟩;exact⟨i,by omega,h2⟩
   ·rintro⟨i,h1,h2,h3⟩
    refine⟨i,?_,h2,h3⟩
    by_cases e:i=n
    ·subst e;exact absurd h h2
    ·omega
  ·rename_i h
   rw[Qd,ih,Qm]
   constructor
   ·rintro (⟨i,h1,h2⟩|rfl)
    ·exact⟨i,by omega,h2⟩
    ·exact⟨n,by omega,h,rfl⟩
   ·rintro⟨i,h1,h2,h3⟩
    by_cases e:i=n
    ·subst e;exact .inr h3.symm
    ·exact .inl ⟨i,by omega,h2,h3⟩
theorem goneL_mem{im keep:List Int}{x:Int}:x∈Xg im keep↔∃i:Nat,i<im.length∧¬(i:Int)∈keep∧gt im i=x:=QjV
theorem Qf5(im keep:List Int)(i:Nat):∀k,k≤i+1→idR im keep i k=[]
 |0,_=>rfl
 |k+1,h=>by rw[idR,if_neg (fun h'=>by omega)];exact Qf5 im keep i k (by omega)
theorem QdE(im keep:List Int)(i:Nat):∀k,(idR im keep i k).length≤k
 |0=>by simp [idR]
 |k+1=>by rw[idR];have:=QdE im keep i k;split<;>simp<;>omega
theorem QjW(im keep:List Int):∀i,(idA im keep i).length≤i*im.length
 |0=>by simp [idA]
 |i+1=>by
  rw[idA,Qj]
  have:=QjW im keep i
  have:=QdE im keep i im.length
  have e:(i+1)*im.length=i*im.length+im.length:=by rw[Nat.add_mul];omega
  omega
theorem Qf6{im keep:List Int}(h:im.length≤1000){i:Nat}(hi:i≤im.length):(idA im keep i).length≤1000000:=by
 have:=QjW im keep i
 have:i*im.length≤1000*1000:=Nat.mul_le_mul (by omega) h
 omega
theorem QbA{x:Cx}(h:cxE x=0):MOk x.l x.g x.m∧PK x.l x.k:=by
 unfold cxE at h
 split at h
 ·rename_i e;exact absurd h e
 ·rename_i e;exact⟨mok.1 (QJ.1 e),validP_ok.1 h⟩
theorem QdF(im keep:List Int):(Xg im keep).length≤im.length:=QdD _ _ _
end
def Yd(b:List Bool):List Int:=sel (fun k:Nat=>gt b k) b.length
def Qaj(g:G)(bn be:List Bool):Mo:=⟨sel (fun k:Nat=>gt bn k||decide ((k:Int)∈YE g (Yd be))) bn.length,Yd be⟩
def cxR(x:Cx):Mo×Int:=if cxE x≠0 then (m0,cxE x) else if 0<(idL x.m.n x.k.n).length+(idL x.m.e x.k.e).length then (m0,15) else if 0<(Y2 x).length then (m0,14) else (⟨Yu x.g.n.length (Xg x.m.n x.k.n),Yu x.g.e.length (Xg x.m.e x.k.e)⟩,0)
section
variable {P:Program} {F:String→Nat} {α:Type}
theorem QjX{b:List Bool}{x:Int}:x∈Yd b↔∃k:Nat,k<b.length∧gt b k=true∧x=k:=sel_mem
theorem markL_mem{b:List Bool}{k:Nat}:(k:Int)∈Yd b↔k<b.length∧gt b k=true:=sel_memN
theorem QrR{g:G}{ns es:List Int}{bn be:List Bool}(h1:bn.length=g.n.length)(h2:be.length=g.e.length)(h3:∀k:Nat,k<g.n.length→gt bn k=decide ((k:Int)∈ns))(h4:∀k:Nat,k<g.e.length→gt be k=decide ((k:Int)∈es))(h5:∀x∈es,0≤x∧x<g.e.length):Qaj g bn be=Qcf g ns es:=by
 have hM:Yd be=sel (fun k:Nat=>decide ((k:Int)∈es)) g.e.length:=QaL (JI _ _) (JI _ _) fun x=>by
  rw[QjX,sel_mem]
  constructor
  ·rintro⟨k,k1,k2,rfl⟩;exact⟨k,by omega,by rw[←h4 k (by omega)];exact k2,rfl⟩
  ·rintro⟨k,k1,k2,rfl⟩;exact⟨k,by omega,by rw[h4 k (by omega)];exact k2,rfl⟩
 have hE:∀x,x∈YE g (Yd be)↔x∈YE g es:=fun x=>by
  rw[ends_mem,ends_mem,hM]
  constructor
  ·rintro⟨e,he,hx⟩
   obtain⟨k,_,k2,rfl⟩:=sel_mem.1 he
   exact⟨k,by simpa using k2,hx⟩
  ·rintro⟨e,he,hx⟩
   obtain⟨k,hk,rfl⟩:=gtI (h5 e he)
   exact⟨k,sel_memN.2 ⟨hk,by simpa using he⟩,hx⟩
 refine QjT (QaL (JI _ _) (JI _ _) fun x=>?_) hM
 rw[show (Qaj g bn be).n=sel (fun k:Nat=>gt bn k||decide ((k:Int)∈YE g (Yd be))) bn.length from rfl,show (Qcf g ns es).n=sel (fun k:Nat=>decide ((k:Int)∈ns)||decide ((k:Int)∈YE g es)) g.n.length from rfl,sel_mem,sel_mem]
 constructor
 ·rintro⟨k,k1,k2,rfl⟩
  refine⟨k,by omega,?_,rfl⟩
  rw[h3 k (by omega),decide_eq_decide.2 (hE k)] at k2
  exact k2
 ·rintro⟨k,k1,k2,rfl⟩
  refine⟨k,by omega,?_,rfl⟩
  rw[h3 k (by omega),decide_eq_decide.2 (hE k)]
  exact k2
theorem QdG{im kn:List Int}(h:im.length≤1000):(idL im kn).length≤1000000:=Qf6 h (Qg _)
theorem QjY(x:Cx):(Y2 x).length≤x.g.e.length:=YM _ _
end
section
theorem QjZ{im kn:List Int}{i:Nat}{p:Pr}:∀{n:Nat},p∈idR im kn i n↔∃k:Nat,i<k∧k<n∧idP im kn i k=true∧p=⟨i,k⟩
 |0=>by simp [idR]
 |n+1=>by
  rw[idR]
  have ih:=QjZ (im:=im) (kn:=kn) (i:=i) (p:=p) (n:=n)
  split
  ·rename_i h
   rw[Qd,ih,Qm]
   constructor
   ·rintro (⟨k,h1,h2,h3⟩|rfl)
    ·exact⟨k,h1,by omega,h3⟩
    ·exact⟨n,h.1,by omega,h.2,rfl⟩
   ·rintro⟨k,h1,h2,h3,h4⟩
    by_cases e:k=n
    ·subst e;exact .inr h4
    ·exact .inl ⟨k,h1,by omega,h3,h4⟩
  ·rename_i h
   rw[ih]
   constructor
   ·rintro⟨k,h1,h2,h3⟩;exact⟨k,h1,by omega,h3⟩
   ·rintro⟨k,h1,h2,h3,h4⟩
    by_cases e:k=n
    ·subst e;exact absurd ⟨h1,h3⟩ h
    ·exact⟨k,h1,by omega,h3,h4⟩
theorem Qj0{im kn:List Int}{p:Pr}:∀{n:Nat},p∈idA im kn n↔∃i k:Nat,i<n∧i<k∧k<im.length∧idP im kn i k=true∧p=⟨i,k⟩
 |0=>by simp [idA]
 |n+1=>by
  rw[idA,Qd,Qj0,QjZ]
  constructor
  ·rintro (⟨i,k,h1,h2⟩|⟨k,h1,h2⟩)
   ·exact⟨i,k,by omega,h2⟩
   ·exact⟨n,k,by omega,h1,h2⟩
  ·rintro⟨i,k,h1,h2,h3⟩
   by_cases e:i=n
   ·subst e;exact .inr ⟨k,h2,h3⟩
   ·exact .inl ⟨i,k,by omega,h2,h3⟩
theorem idL_mem{im kn:List Int}{p:Pr}:p∈idL im kn↔∃i k:Nat,i<k∧k<im.length∧idP im kn i k=true∧p=⟨i,k⟩:=by
 unfold idL
 rw[Qj0]
 constructor
 ·rintro⟨i,k,_,h⟩;exact⟨i,k,h⟩
 ·rintro⟨i,k,h1,h2,h3⟩;exact⟨i,k,by omega,h1,h2,h3⟩
theorem danL_mem{x:Cx}{d:Int}:d∈Y2 x↔∃k:Nat,k<x.g.e.length∧Za x.g (Xg x.m.n x.k.n) x.m.e k=true∧d=k:=sel_mem
end
def JJ(s i:Int):Bool:=decide (IntKind.u64.wrap ((BitVec.ofInt 64 (s.fdiv (2 ^ (min (i.tmod 64).toNat 64)))&&&1#64).toNat:Int)=1)
def Zx(s:Int)(n m:Nat):List Bool:=(List.range m).map fun k:Nat=>JJ s ((n:Int)+(k:Int))
def Qcg(g:G)(s:Int):Mo:=Qaj g (Zx s 0 g.n.length) (Zx s g.n.length g.e.length)
section
variable {P:Program} {F:String→Nat} {α:Type}
theorem QaN(s:Int)(n m:Nat):(Zx s n m).length=m:=by simp [Zx]
theorem Qj1{s:Int}{n m k:Nat}(h:k<m):gt (Zx s n m) (k:Int)=JJ s ((n:Int)+k):=by
 rw[QV (by rw[QaN];exact h)]
 simp [Zx]
theorem QrS{g:G}{bn be:List Bool}(h1:bn.length=g.n.length)(h2:be.length=g.e.length):Qaj g bn be=Qcf g (Yd bn) (Yd be):=by
 have hm:∀(b:List Bool)(k:Nat),k<b.length→gt b k=decide ((k:Int)∈Yd b):=fun b k hk=>by
  rw[Bool.eq_iff_iff,Ql,markL_mem]
  exact⟨fun h=>⟨hk,h⟩,fun h=>h.2⟩
 refine QrR h1 h2 (fun k hk=>hm bn k (by omega)) (fun k hk=>hm be k (by omega)) fun x hx=>?_
 obtain⟨k,hk,_,rfl⟩:=sel_mem.1 hx
 omega
theorem Qj2{g:G}{s:Int}(hv:QZ g=0):PK g (Qcg g s):=by
 unfold Qcg
 rw[QrS (QaN _ _ _) (QaN _ _ _)]
 exact QrP hv
theorem Qj3{im kn:List Int}{i:Nat}:∀{n:Nat},idR im kn i n=[]→∀k:Nat,i<k→k<n→idP im kn i k=false
 |0,_,k,_,h=>by omega
 |n+1,h,k,h1,h2=>by
  rw[idR] at h
  split at h
  ·simp at h
  ·rename_i hc
   by_cases e:k=n
   ·subst e
    rw[←Bool.not_eq_true]
    exact fun h=>hc ⟨h1,h⟩
   ·exact Qj3 h k h1 (by omega)
theorem Qj4{im kn:List Int}:∀{n:Nat},idA im kn n=[]→∀i:Nat,i<n→idR im kn i im.length=[]
 |0,_,i,h=>by omega
 |n+1,h,i,hi=>by
  rw[idA,List.append_eq_nil_iff] at h
  by_cases e:i=n
  ·subst e;exact h.2
  ·exact Qj4 h.1 i (by omega)
theorem QdH{im kn:List Int}(h:idL im kn=[]){i k:Nat}(hi:i<k)(hk:k<im.length)(he:gt im i=gt im k):(i:Int)∈kn∧(k:Int)∈kn:=by
 have:=Qj3 (Qj4 h i (by omega)) k hi hk
 unfold idP at this
 rw[he] at this
 simpa using this
theorem danE_iff{g:G}{gone me:List Int}{k:Nat}:Za g gone me k=true↔¬(k:Int)∈me∧((gt g.e k).f∈gone∨(gt g.e k).o∈gone):=by
 unfold Za
 simp
theorem PK.sm{g:G}{p:Mo}(h:PK g p):p.sm:=by
 have:=h.len
 exact⟨by unfold QS;omega,by unfold QS;omega⟩
end
def QdI(l:List Int)(i k:Nat):List Int:=(l.set i (gt l k)).set k (gt l i)
def QaO(n:Nat)(cs:List Int)(i:Nat):Nat:=i+((gt cs i).tmod (n-i)).toNat
def ZP(n:Nat)(cs:List Int):Nat→List Int
 |0=>QY 0 n
 |i+1=>QdI (ZP n cs i) i (QaO n cs i)
section
variable {P:Program} {F:String→Nat} {α:Type}
theorem Qf7(n:Nat)(cs:List Int):∀i,(ZP n cs i).length=n
 |0=>by simp [ZP,Yp]
 |i+1=>by simp [ZP,QdI,Qf7 n cs i]
theorem QrT{n:Nat}{cs:List Int}{i:Nat}(h1:i<n)(h2:i<cs.length)(h3:∀v∈cs,XA v):QaO n cs i<n:=by
 have ho:=h3 _ (gt_mem (l:=cs) (j:=i) (by omega) (by omega))
 have hb:=Qjo (x:=gt cs i) (m:=(n:Int)-i) ho.1 (by omega)
 unfold QaO
 omega
theorem Qj5{n:Nat}{cs:List Int}(h3:∀v∈cs,XA v):∀i,i≤n→i≤cs.length→(ZP n cs i).Perm (QY 0 n)
 |0,_,_=>List.Perm.refl _
 |i+1,h1,h2=>by
  have hl:=Qf7 n cs i
  have hk:=QrT (n:=n) (cs:=cs) (i:=i) (by omega) (by omega) h3
  refine List.Perm.trans ?_ (Qj5 h3 i (by omega) (by omega))
  simp only[ZP,QdI]
  rw[QV (by omega),QV (by omega)]
  exact List.set_set_perm (by omega) (by omega)
end
def reO(g:G)(m:Mo):G:=⟨YA g.n m.n g.n g.n.length,YA (reE m.n g.e) m.e g.e g.e.length⟩
section
theorem QrU{l:List Int}(h:∀i j:Nat,i<l.length→j<l.length→gt l i=gt l j→i=j):l.Nodup:=by
 unfold List.Nodup
 rw[List.pairwise_iff_getElem]
 intro i j hi hj hij e
 have:=h i j hi hj (by rw[QV hi,QV hj,e])
 omega
theorem covers_ix{l:List Int}{n:Nat}:Y9 l n=true↔∀k:Nat,k<n→∃i:Nat,i<l.length∧gt l i=k:=by
 unfold Y9
 rw[Qs]
 simp only[List.mem_range,Ql]
 exact⟨fun h k hk=>Xk (h k hk),fun h k hk=>by obtain⟨i,h1,h2⟩:=h k hk;rw[←h2];exact gt_mem (by omega) (by omega)⟩
theorem QrV{a b:G}{m:Mo}(hm:MOk a b m):ZA a b m=true↔m.n.Nodup∧m.e.Nodup:=by
 unfold ZA Yy
 rw[mok.2 hm]
 simp
theorem QrW{a b:G}{m:Mo}(hm:MOk a b m):QaH a b m=true↔Y9 m.n b.n.length=true∧Y9 m.e b.e.length=true:=by
 unfold QaH
 rw[mok.2 hm]
 simp
theorem Qf8{α:Type}[Inhabited α]{l:List α}{q:List Int}{z:List α}:∀{n:Nat},(∀i:Nat,i<n→0≤gt q i∧gt q i<z.length)→(∀i j:Nat,i<n→j<n→gt q i=gt q j→i=j)→∀i:Nat,i<n→gt (YA l q z n) (gt q i)=gt l i
 |0,_,_,i,hi=>by omega
 |n+1,hb,hn,i,hi=>by
  obtain⟨b1,b2⟩:=hb i hi
  obtain⟨b3,b4⟩:=hb n (by omega)
  obtain⟨k,hk⟩:=QrM b1
  rw[YA,hk,QrN (by rw[Qai];omega)]
  by_cases c:(gt q n).toNat=k
  ·rw[if_pos c]
   rw[hn n i (by omega) hi (by omega)]
  ·rw[if_neg c,←hk]
   refine Qf8 (fun i hi=>hb i (by omega)) (fun i j hi hj=>hn i j (by omega) (by omega)) i ?_
   by_cases x:i=n
   ·subst x;omega
   ·omega
structure PermI(q:List Int)(n:Nat):Prop where
 l:q.length=n
 b:∀i:Nat,i<n→0≤gt q i∧gt q i<n
 j:∀i k:Nat,i<n→k<n→gt q i=gt q k→i=k
theorem PermI.of{l:List Int}{n:Nat}(h:l.Perm (QY 0 n)):PermI l n:=by
 have hl:l.length=n:=by rw[h.length_eq,Yp]
 have hn:l.Nodup:=h.symm.nodup_iff.1 (Qdt n)
 exact⟨hl,fun i hi=>nums_mem.1 (h.mem_iff.1 (gt_mem (by omega) (by omega))),fun i k hi hk e=>Zi hn (by omega) (by omega) e⟩
theorem PermI.nodup{l:List Int}{n:Nat}(h:PermI l n):l.Nodup:=QrU fun i j hi hj e=>h.j i j (by rw[←h.l];exact hi) (by rw[←h.l];exact hj) e
theorem PermI.cov{l:List Int}{n:Nat}(h:PermI l n){k:Nat}(hk:k<n):∃i:Nat,i<n∧gt l i=k:=by
 obtain⟨j,hj,hj2⟩:=QrL h.nodup (fun x hx=>by obtain⟨i,hi,hi2⟩:=Xk hx;rw[h.l] at hi ⊢;rw[←hi2];exact h.b i hi) k (by rw[h.l];exact hk)
 exact⟨j,by rw[←h.l];exact hj,hj2⟩
theorem QrX{g:G}{m:Mo}(hv:QZ g=0)(h1:PermI m.n g.n.length)(h2:PermI m.e g.e.length):MOk g (reO g m) m∧ZA g (reO g m) m=true∧QaH g (reO g m) m=true:=by
 have vs:=XZ hv
 have aN:∀i:Nat,i<g.n.length→gt (reO g m).n (gt m.n i)=gt g.n i:=fun i hi=>Qf8 h1.b h1.j i hi
 have aE:∀i:Nat,i<g.e.length→gt (reO g m).e (gt m.e i)=⟨(gt g.e i).t,gt m.n (gt g.e i).f,gt m.n (gt g.e i).o⟩:=fun i hi=>by
  rw[←QjP hi]
  exact Qf8 h2.b h2.j i hi
 have lN:(reO g m).n.length=g.n.length:=Qai _ _ _ _
 have lE:(reO g m).e.length=g.e.length:=Qai _ _ _ _
 have hm:MOk g (reO g m) m:=by
  refine⟨hv,JE (by omega) (by omega) (fun x hx=>?_) (fun x hx=>?_),h1.l,h2.l,fun i hi=>?_,fun i hi=>?_⟩
  ·obtain⟨k,hk,hk2⟩:=Xk hx
   rw[lN] at hk
   obtain⟨i,hi,hi2⟩:=h1.cov hk
   rw[←hk2,←hi2,aN i hi]
   exact vs.2.2.1 _ (gt_mem (by omega) (by omega))
  ·obtain⟨k,hk,hk2⟩:=Xk hx
   rw[lE] at hk
   obtain⟨i,hi,hi2⟩:=h2.cov hk
   obtain⟨t1,t2,t3⟩:=Zj hv (i:=i) (by omega)
   obtain⟨a,ha,ha2⟩:=gtI t2
   obtain⟨b,hb,hb2⟩:=gtI t3
   rw[←hk2,←hi2,aE i hi,ha2,hb2,lN]
   exact JC t1 (h1.b a ha) (h1.b b hb)
  ·rw[lN];exact⟨h1.b i hi,aN i hi⟩
  ·rw[lE,aE i hi];exact⟨h2.b i hi,rfl,rfl,rfl⟩
 refine⟨hm,(QrV hm).2 ⟨h1.nodup,h2.nodup⟩,(QrW hm).2 ⟨covers_ix.2 fun k hk=>?_,covers_ix.2 fun k hk=>?_⟩⟩
 ·rw[lN] at hk
  obtain⟨i,hi,hi2⟩:=h1.cov hk
  exact⟨i,by rw[h1.l];exact hi,hi2⟩
 ·rw[lE] at hk
  obtain⟨i,hi,hi2⟩:=h2.cov hk
  exact⟨i,by rw[h2.l];exact hi,hi2⟩
end
section
variable {α:Type}
theorem QdJ(p:α→Bool):∀(l:List α)(i:Int),0≤i→idx p l i= -1→∀x∈l,p x=false
 |[],_,_,_,x,hx=>by simp at hx
 |a::l,i,h0,h,x,hx=>by
  simp only[idx] at h
  split at h
  ·omega
  ·rename_i ha
   rcases Qh.1 hx with rfl|hx
   ·simpa using ha
   ·exact QdJ p l (i+1) (by omega) h x hx
theorem QbB[Inhabited α](p:α→Bool):∀(l:List α)(i:Int),idx p l i≠ -1→∃k:Nat,idx p l i=i+k∧k<l.length∧p (gt l k)=true∧∀x∈l.take k,p x=false
 |[],_,h=>absurd rfl h
 |a::l,i,h=>by
  simp only[idx] at h ⊢
  split
  ·rename_i ha
   exact⟨0,by simp,by simp,by simpa [gt] using ha,by simp⟩
  ·rename_i ha
   rw[if_neg ha] at h
   obtain⟨k,h1,h2,h3,h4⟩:=QbB p l (i+1) h
   refine⟨k+1,by rw[h1];push_cast;omega,by simpa using h2,?_,?_⟩
   ·rw[QV (by simpa using h2)]
    rw[QV h2] at h3
    simpa using h3
   ·rw[List.take_succ_cons]
    intro x hx
    rcases Qh.1 hx with rfl|hx
    ·simpa using ha
    ·exact h4 x hx
end
def exL(g:G)(pn pe:List Int):List E:=pe.map fun k=>⟨(gt g.e k).t,(Xq pn (gt g.e k).f:Int),(Xq pn (gt g.e k).o:Int)⟩
def ptG(g:G)(p:Mo):G:=⟨thr p.n g.n,exL g p.n p.e⟩
def exR(g:G)(p:Mo):G×Mo×Int:=if Yz g p≠0 then (g0,m0,Yz g p) else (ptG g p,p,0)
section
variable {P:Program} {F:String→Nat} {α:Type}
theorem Qak(g:G)(pn pe:List Int):(exL g pn pe).length=pe.length:=by simp [exL]
theorem Qj6{g:G}{pn pe:List Int}{i:Nat}(h:i<pe.length):exL g pn (pe.take (i+1))=exL g pn (pe.take i)++[⟨(gt g.e (gt pe i)).t,(Xq pn (gt g.e (gt pe i)).f:Int),(Xq pn (gt g.e (gt pe i)).o:Int)⟩]:=by
 rw[Xm h];simp [exL]
theorem Qch{l:List Int}(h:l.Pairwise (·<·)){i j:Nat}(hi:i<l.length)(hj:j<l.length)(e:gt l i=gt l j):i=j:=by
 rcases Nat.lt_trichotomy i j with c|c|c
 ·have:=QaM h c hj;omega
 ·exact c
 ·have:=QaM h c hi;omega
theorem QaP{l:List Int}(h:l.Pairwise (·<·)){i:Nat}(hi:i<l.length):Xq l (gt l i)=i:=
 (QjU h (Nat.le_of_lt hi) (fun k hk=>QaM h hk hi) fun k hk hk2=>by
  by_cases e:i=k
  ·rw[e];omega
  ·have:=QaM h (i:=i) (j:=k) (by omega) hk2;omega).1
theorem Qj7{l:List Int}(h:l.Pairwise (·<·)){x:Int}(hx:x∈l):∃i:Nat,i<l.length∧Xq l x=i∧gt l i=x:=by
 obtain⟨i,h1,rfl⟩:=Xk hx
 exact⟨i,h1,QaP h h1,rfl⟩
theorem Qj8{l:List Int}(h:l.Pairwise (·<·)){x:Int}(hx:x∈l):idx (fun y=>decide (x=y)) l 0=Xq l x:=by
 have hne:idx (fun y=>decide (x=y)) l 0≠ -1:=fun e=>by
  have:=QdJ _ l 0 (by omega) e x hx
  simp at this
 obtain⟨k,h1,h2,h3,_⟩:=QbB _ l 0 hne
 have hk:x=gt l k:=by simpa using h3
 rw[h1,hk,QaP h h2]
 omega
theorem QdK{g:G}{pn pe:List Int}{i:Nat}(h:i<pe.length):gt (exL g pn pe) i=⟨(gt g.e (gt pe i)).t,(Xq pn (gt g.e (gt pe i)).f:Int),(Xq pn (gt g.e (gt pe i)).o:Int)⟩:=by
 rw[QV (by rw[Qak];exact h),QV h]
 simp [exL]
theorem Qf9{g:G}{p:Mo}(h:PK g p):MOk (ptG g p) g p:=by
 have hl:=h.len
 have vs:=XZ h.v
 have en:∀x∈p.n,∃i:Nat,i<p.n.length∧Xq p.n x=i∧gt p.n i=x:=fun x hx=>Qj7 h.n.p hx
 have ln:(ptG g p).n.length=p.n.length:=X4 _ _
 have le:(ptG g p).e.length=p.e.length:=Qak _ _ _
 refine⟨JE (by rw[ln];omega) (by rw[le];omega) (fun x hx=>?_) (fun x hx=>?_),h.v,ln.symm,le.symm,fun i hi=>?_,fun i hi=>?_⟩
 ·obtain⟨i,hi,rfl⟩:=Xk hx
  rw[ln] at hi
  have hb:=h.n.b _ (gt_mem (l:=p.n) (j:=(i:Int)) (by omega) (by omega))
  simp only[ptG]
  rw[X5 hi]
  exact vs.2.2.1 _ (gt_mem hb.1 hb.2)
 ·obtain⟨i,hi,rfl⟩:=Xk hx
  rw[le] at hi
  have hm:=gt_mem (l:=p.e) (j:=(i:Int)) (by omega) (by omega)
  have hb:=h.e.b _ hm
  obtain⟨e1,e2,e3⟩:=Zj h.v hb
  obtain⟨a,a1,a2,_⟩:=en _ (h.d _ hm).1
  obtain⟨b,b1,b2,_⟩:=en _ (h.d _ hm).2
  rw[ln]
  simp only[ptG]
  rw[QdK hi,a2,b2]
  exact JC e1 (by simp only;omega) (by simp only;omega)
 ·rw[ln] at hi
  have hb:=h.n.b _ (gt_mem (l:=p.n) (j:=(i:Int)) (by omega) (by omega))
  refine⟨hb,?_⟩
  simp only[ptG]
  rw[X5 hi]
 ·rw[le] at hi
  have hm:=gt_mem (l:=p.e) (j:=(i:Int)) (by omega) (by omega)
  have hb:=h.e.b _ hm
  obtain⟨a,a1,a2,a3⟩:=en _ (h.d _ hm).1
  obtain⟨b,b1,b2,b3⟩:=en _ (h.d _ hm).2
  refine⟨hb,?_⟩
  simp only[ptG]
  rw[QdK hi]
  simp only
  rw[a2,b2,a3,b3]
  exact⟨trivial,rfl,rfl⟩
end
structure Hs where
 g:G
 v:List (List Int)
 deriving DecidableEq,Inhabited
structure Slo where
 nd:Int
 ak:Int
 vr:Int
 ad:Int
 deriving DecidableEq,Inhabited
structure Te where
 k:Int
 lv:Int
 la:Int
 rv:Int
 ra:Int
 deriving DecidableEq,Inhabited
structure Pa where
 g:G
 s:List Slo
 v:Int
 t:List Te
 deriving DecidableEq,Inhabited
inductive Fb where
 |tt
 |no (m:Mo) (q:G) (v:Int)
 deriving DecidableEq,Inhabited
structure Ru where
 nm:ByteArray
 l:Pa
 r:Pa
 k:Mo
 i:Mo
 inj:Bool
 c:Fb
 deriving Inhabited
structure Mt where
 m:Mo
 v:List Int
 deriving DecidableEq,Inhabited
structure Ste where
 r:Ru
 m:Mt
 b:Hs
 a:Hs
 t:Mo
 c:Mo
 deriving Inhabited
def X8(l:List (List Int)):List D:=l.map fun r=>.lst 1 (QR r)
def slD(x:Slo):D:=.agg [.int .i64 x.nd,.int .i64 x.ak,.int .i64 x.vr,.int .i64 x.ad]
def XI(l:List Slo):List D:=l.map slD
def teD(x:Te):D:=.agg [.int .i64 x.k,.int .i64 x.lv,.int .i64 x.la,.int .i64 x.rv,.int .i64 x.ra]
def Ye(l:List Te):List D:=l.map teD
def hsL(h:Hs):List D:=[.lst 1 (QR h.g.n),.lst 3 (eds h.g.e),.lst 1 (X8 h.v)]
def hsD(h:Hs):D:=.agg (hsL h)
def paL(p:Pa):List D:=[.lst 1 (QR p.g.n),.lst 3 (eds p.g.e),.lst 4 (XI p.s),.int .i64 p.v,.lst 5 (Ye p.t)]
def paD(p:Pa):D:=.agg (paL p)
def cyL(k:Int)(kids:List D)(m:Mo)(q:G)(v:Int):List D:=[.int .i64 k,.lst 9 kids,.lst 1 (QR m.n),.lst 1 (QR m.e),.lst 1 (QR q.n),.lst 3 (eds q.e),.lst 4 [],.int .i64 v,.lst 5 []]
def ttL:List D:=cyL 1 [] m0 g0 0
def XB(m:Mo)(q:G)(v:Int):List D:=cyL 5 [.agg ttL] m q v
def fbL:Fb→List D
 | .tt=>ttL
 | .no m q v=>cyL 2 [.agg (XB m q v)] m0 g0 0
def fbD(c:Fb):D:=.agg (fbL c)
def ruL(r:Ru):List D:=.str r.nm::(paL r.l++(paL r.r++([.lst 1 (QR r.k.n),.lst 1 (QR r.k.e),.lst 1 (QR r.i.n),.lst 1 (QR r.i.e),.bool r.inj]++fbL r.c)))
def Q6(r:Ru):D:=.agg (ruL r)
def mtL(m:Mt):List D:=[.lst 1 (QR m.m.n),.lst 1 (QR m.m.e),.lst 1 (QR m.v)]
def mtD(m:Mt):D:=.agg (mtL m)
def X0(s:Ste):List D:=ruL s.r++(mtL s.m++(hsL s.b++(hsL s.a++[.lst 1 (QR s.t.n),.lst 1 (QR s.t.e),.lst 1 (QR s.c.n),.lst 1 (QR s.c.e)])))
def Xs(s:Ste):D:=.agg (X0 s)
structure Typ(t:Ty)(g:G):Prop where
 n:∀x∈g.n,IsT t x
 e:∀x∈g.e,0≤x.t∧x.t<t.e.length
def YF(t:Ty)(k a b:Int):Bool:=Xh t a (gt t.e k).f&&Xh t b (gt t.e k).o
structure HsOk(t:Ty)(h:Hs):Prop where
 g:QZ h.g=0
 ln:h.v.length=h.g.n.length
 ty:Typ t h.g
 ab:∀i:Nat,i<h.g.n.length→(gt t.n (gt h.g.n (i:Int))).ab=false
 vl:∀i:Nat,i<h.g.n.length→(gt h.v (i:Int)).length=(Q0 t (gt h.g.n (i:Int))).length
 vb:∀i:Nat,i<h.g.n.length→∀k:Nat,k<(gt h.v (i:Int)).length→(gt (Q0 t (gt h.g.n (i:Int))) (k:Int)).lo≤gt (gt h.v (i:Int)) (k:Int)∧gt (gt h.v (i:Int)) (k:Int)≤(gt (Q0 t (gt h.g.n (i:Int))) (k:Int)).hi
 et:∀k:Nat,k<h.g.e.length→YF t (gt h.g.e (k:Int)).t (gt h.g.n (gt h.g.e (k:Int)).f) (gt h.g.n (gt h.g.e (k:Int)).o)=true
structure SlOk(t:Ty)(g:G)(v:Int)(x:Slo):Prop where
 nd:0≤x.nd∧x.nd<g.n.length
 ak:0≤x.ak∧x.ak<(Q0 t (gt g.n x.nd)).length
 vr: -1≤x.vr∧x.vr<v
 ad: -100≤x.ad∧x.ad≤100
structure TeOk(v:Int)(x:Te):Prop where
 k:x.k=1∨x.k=2
 lv: -1≤x.lv∧x.lv<v
 la: -100≤x.la∧x.la≤100
 rv: -1≤x.rv∧x.rv<v
 ra: -100≤x.ra∧x.ra≤100
structure PaOk(t:Ty)(p:Pa):Prop where
 g:QZ p.g=0
 ty:Typ t p.g
 v:0≤p.v∧p.v≤12
 sl:p.s.length≤10
 tl:p.t.length≤10
 s:∀x∈p.s,SlOk t p.g p.v x
 t:∀x∈p.t,TeOk p.v x
 oc:∀v:Int,0≤v→v<p.v→∃x∈p.s,x.vr=v
def FbOk(t:Ty)(p:Pa):Fb→Prop
 | .tt=>True
 | .no m q v=>v=p.v∧Typ t q∧Emb p.g q m∧q.n.length≤p.g.n.length+1∧q.e.length≤p.g.e.length+1
structure RuOk(t:Ty)(r:Ru):Prop where
 nm:r.nm=Yj 114
 l:PaOk t r.l
 rg:QZ r.r.g=0
 rt:Typ t r.r.g
 rv:r.r.v=r.l.v
 re:r.r.t=[]
 rl:r.r.s.length≤10
 rs:∀x∈r.r.s,SlOk t r.r.g r.r.v x
 rd:∀i k:Nat,i<r.r.s.length→k<r.r.s.length→(gt r.r.s (i:Int)).nd=(gt r.r.s (k:Int)).nd→(gt r.r.s (i:Int)).ak=(gt r.r.s (k:Int)).ak→i=k
 k:PK r.l.g r.k
 i:Emb (ptG r.l.g r.k) r.r.g r.i
 cn:∀i:Nat,i<r.r.g.n.length→¬(i:Int)∈r.i.n→(gt t.n (gt r.r.g.n (i:Int))).ab=false
 ce:∀k:Nat,k<r.r.g.e.length→¬(k:Int)∈r.i.e→YF t (gt r.r.g.e (k:Int)).t (gt r.r.g.n (gt r.r.g.e (k:Int)).f) (gt r.r.g.n (gt r.r.g.e (k:Int)).o)=true
 c:FbOk t r.l r.c
structure SmOk(t:Ty)(p g:G)(m:Mo):Prop where
 ln:m.n.length=p.n.length
 le:m.e.length=p.e.length
 nd:∀i:Nat,i<p.n.length→(0≤gt m.n (i:Int)∧gt m.n (i:Int)<g.n.length)∧Xh t (gt g.n (gt m.n (i:Int))) (gt p.n (i:Int))=true
 ed:∀i:Nat,i<p.e.length→(0≤gt m.e (i:Int)∧gt m.e (i:Int)<g.e.length)∧(gt p.e (i:Int)).t=(gt g.e (gt m.e (i:Int))).t∧gt m.n (gt p.e (i:Int)).f=(gt g.e (gt m.e (i:Int))).f∧gt m.n (gt p.e (i:Int)).o=(gt g.e (gt m.e (i:Int))).o
def Q1(vr ad:Int)(vs:List Int):Int:=if vr<0 then ad else gt vs vr+ad
def ZE(h:Hs)(m:Mo):List Slo→List Int×List Bool→(List Int×List Bool)×Int
 |[],s=>(s,0)
 |x::l,s=>let have_:=gt (gt h.v (gt m.n x.nd)) x.ak
  let s':=if 0≤x.vr∧gt s.2 x.vr=false then (s.1.set x.vr.toNat (have_-x.ad),s.2.set x.vr.toNat true) else s
  if Q1 x.vr x.ad s'.1≠have_ then (s',11) else ZE h m l s'
def teB(vs:List Int)(x:Te):Bool:=(decide (x.k=1)&&decide (Q1 x.lv x.la vs≤Q1 x.rv x.ra vs))||(decide (x.k=2)&&decide (Q1 x.lv x.la vs=Q1 x.rv x.ra vs))
def XC(p:Pa)(h:Hs)(m:Mo):List Int×Int:=
 let r:=ZE h m p.s (List.replicate p.v.toNat 0,List.replicate p.v.toNat false)
 if r.2≠0 then ([],11) else if p.t.all (teB r.1.1) then (r.1.1,0) else ([],16)
structure ExOk(t:Ty)(h:Hs)(inj:Bool)(m:Mo)(q:G)(mt x:Mo):Prop where
 s:SmOk t q h.g x
 jn:inj=true→x.n.Nodup∧x.e.Nodup
 n:∀i:Nat,i<m.n.length→gt x.n (gt m.n (i:Int))=gt mt.n (i:Int)
 e:∀i:Nat,i<m.e.length→gt x.e (gt m.e (i:Int))=gt mt.e (i:Int)
def ZQ(t:Ty)(h:Hs)(inj:Bool)(mt:Mo):Fb→Prop
 | .tt=>True
 | .no m q _=>∀x,¬ExOk t h inj m q mt x
def XD(p g:G)(m:Mo):G:=⟨thr m.n g.n,p.e⟩
def Xy(n:Nat)(d:List Int):List Int:=(List.range n).map fun i:Nat=>if (i:Int)∈d then (Xq d i:Int) else -1
def crL(n:Nat)(into:List Int):List Int:=sel (fun i:Nat=>!decide ((i:Int)∈into)) n
def QbC(keep into mt trk:List Int)(n:Nat)(i:Nat):Int:=if (i:Int)∈into then gt trk (gt mt (gt keep (idx (fun y=>decide ((i:Int)=y)) into 0))) else n+(Xq (crL i into) i:Int)
def Y3(count:Nat)(keep into mt trk:List Int)(n:Nat):List Int:=(List.range count).map (QbC keep into mt trk n)
def Zk(t:Ty)(a:Int):List Int:=(Q0 t a).map (·.lo)
def Z6(V:List (List Int))(n k v:Int):List (List Int):=V.set n.toNat ((gt V n).set k.toNat v)
def Yk(c:List Int)(vs:List Int):List Slo→List (List Int)→List (List Int)
 |[],V=>V
 |x::l,V=>Yk c vs l (Z6 V (gt c x.nd) x.ak (Q1 x.vr x.ad vs))
def stT(h:Hs)(d:Mo):Mo:=⟨Xy h.g.n.length d.n,Xy h.g.e.length d.e⟩
def stC(r:Ru)(h:Hs)(m d:Mo):Mo:=⟨Y3 r.r.g.n.length r.k.n r.i.n m.n (stT h d).n d.n.length,Y3 r.r.g.e.length r.k.e r.i.e m.e (stT h d).e d.e.length⟩
def stN(r:Ru)(h:Hs)(d:Mo):List Int:=thr d.n h.g.n++thr (crL r.r.g.n.length r.i.n) r.r.g.n
def Xr(r:Ru)(h:Hs)(m d:Mo):List E:=
 (d.e.map fun k=>⟨(gt h.g.e k).t,gt (stT h d).n (gt h.g.e k).f,gt (stT h d).n (gt h.g.e k).o⟩)++
 (crL r.r.g.e.length r.i.e).map fun k=>⟨(gt r.r.g.e k).t,gt (stC r h m d).n (gt r.r.g.e k).f,gt (stC r h m d).n (gt r.r.g.e k).o⟩
def Xp(t:Ty)(r:Ru)(h:Hs)(d:Mo):List (List Int):=(d.n.map fun k=>gt h.v k)++(crL r.r.g.n.length r.i.n).map fun k=>Zk t (gt r.r.g.n k)
def stA(t:Ty)(r:Ru)(h:Hs)(m:Mt)(d:Mo):Hs:=⟨⟨stN r h d,Xr r h m.m d⟩,Yk (stC r h m.m d).n m.v r.r.s (Xp t r h d)⟩
def stS(t:Ty)(r:Ru)(h:Hs)(m:Mt)(d:Mo):Ste:=⟨r,m,h,stA t r h m d,stT h d,stC r h m.m d⟩
def stX(r:Ru)(h:Hs)(m:Mo):Cx:=⟨XD r.l.g h.g m,h.g,r.k,m⟩
structure StOk(t:Ty)(r:Ru)(h:Hs)(m:Mt)(d:Mo):Prop where
 ty:TyOk t
 ru:RuOk t r
 hs:HsOk t h
 sm:SmOk t r.l.g h.g m.m
 jn:r.inj=true→m.m.n.Nodup∧m.m.e.Nodup
 so:XC r.l h m.m=(m.v,0)
 cx:cxR (stX r h m.m)=(d,0)
 c:ZQ t h r.inj m.m r.c
 s1:∀x∈r.r.s,∀y∈r.r.s,gt (stC r h m.m d).n x.nd=gt (stC r h m.m d).n y.nd→x.ak=y.ak→Q1 x.vr x.ad m.v=Q1 y.vr y.ad m.v
 s2:∀x∈r.r.s,(gt (Q0 t (gt (stN r h d) (gt (stC r h m.m d).n x.nd))) x.ak).lo≤Q1 x.vr x.ad m.v∧Q1 x.vr x.ad m.v≤(gt (Q0 t (gt (stN r h d) (gt (stC r h m.m d).n x.nd))) x.ak).hi
 bn:(stN r h d).length≤40
 be:(Xr r h m.m d).length≤80
theorem QrY{l:List Atr}{i:Nat}(h:(i:Int)<l.length):(Ys l).set i (.agg [.str (gt l (i:Int)).nm,.int .i64 (gt l (i:Int)).lo,.int .i64 (gt l (i:Int)).hi,.lst 1 (Jm (gt l (i:Int)).ns)])=Ys l:=by
 rw[QV (by omega)]
 refine List.ext_getElem (by simp) fun k a1 a2=>?_
 rw[List.getElem_set]
 split
 ·rename_i e;subst e;simp [Ys,atD]
 ·rfl
theorem Qci{α:Type}[Inhabited α]{l:List α}{i k:Nat}(h:k<i)(hl:i≤l.length):gt (l.take i) (k:Int)=gt l (k:Int):=by
 rw[QV (by rw[Qo];omega),QV (by omega),List.getElem_take]
theorem QrZ(l:List NT)(i:Nat):(Y0 l).take i=Y0 (l.take i):=(List.map_take ..).symm
theorem Qr0(l:List ET)(i:Nat):(Y1 l).take i=Y1 (l.take i):=(List.map_take ..).symm
theorem Qr1(l:List Atr)(i:Nat):(Ys l).take i=Ys (l.take i):=(List.map_take ..).symm
theorem Qj9(l:List Slo)(i:Nat):(XI l).take i=XI (l.take i):=(List.map_take ..).symm
theorem Qr2(l:List Slo):(XI l).length=l.length:=by simp [XI]
theorem Qr3{l:List Slo}{i:Nat}(h:i<l.length):(XI l)[i]?=some (slD (gt l (i:Int))):=by
 unfold XI;rw[List.getElem?_map,Qn h,QV h];rfl
attribute [go_sem] Qr2 QrZ Qr0 Qr1 Qj9
attribute [go_sem low] Qr3
theorem Qr4(l:List NT)(hl:l.length≤1000)(g:Nat)(cs:List D)(hcs:cs.all YK=true)(hg:∀x∈l,FC Tryz.prog g (ntD x::cs) (.bool false) []):FT 355 [.lst 4 (Y0 l),.clo g cs] (.int .i64 (-1)):=by
 refine fo [] ?_ (hok:=(by simp only[List.all_cons,List.all_nil,Bool.and_true];exact ZN hcs))
 conv in fnC ..=>reduce
 have e1:=Qbp hcs
 have e2:=Qbq hcs
 simp(disch:=omega)only[go_sem]
 refine Xb 8 l.length 0 (by simp(disch:=omega)only[go_sem,e2];rfl) (by omega) fun i _ hi=>?_
 simp(disch:=omega)only[go_sem,e2]
 refine QT (fun c=>?_) (fun c=>?_)
 ·simp(disch:=omega)only[go_sem,e1,ntD]
  refine QQ (hg _ (gt_mem (by omega) c)) ?_
  simp(disch:=omega)only[go_sem,e2]
  exact⟨i+1,by simp,by omega,by omega⟩
 ·simp(disch:=omega)only[go_sem]
theorem Qr5(l:List NT)(hl:l.length≤1000)(g:Nat)(cs:List D)(hcs:cs.all YK=true)(hg:∀x∈l,FC Tryz.prog g (ntD x::cs) (.bool false) []):FT 294 [.lst 4 (Y0 l),.clo g cs] (.bool false):=by
 refine fo [] ?_ (hok:=(by simp only[List.all_cons,List.all_nil,Bool.and_true];exact ZN hcs))
 conv in fnC ..=>reduce
 simp(disch:=omega)only[go_sem,Qbo hcs]
 refine QQ (Qr4 l hl g cs hcs hg) ?_
 simp(disch:=omega)only[go_sem,axS]
theorem Qr6(l:List ET)(hl:l.length≤1000)(g:Nat)(cs:List D)(hcs:cs.all YK=true)(hg:∀x∈l,FC Tryz.prog g (etD x::cs) (.bool false) []):FT 359 [.lst 7 (Y1 l),.clo g cs] (.int .i64 (-1)):=by
 refine fo [] ?_ (hok:=(by simp only[List.all_cons,List.all_nil,Bool.and_true];exact ZN hcs))
 conv in fnC ..=>reduce
 have e1:=Qbp hcs
 have e2:=Qbq hcs
 simp(disch:=omega)only[go_sem]
 refine Xb 8 l.length 0 (by simp(disch:=omega)only[go_sem,e2];rfl) (by omega) fun i _ hi=>?_
 simp(disch:=omega)only[go_sem,e2]
 refine QT (fun c=>?_) (fun c=>?_)
 ·simp(disch:=omega)only[go_sem,e1,etD]
  refine QQ (hg _ (gt_mem (by omega) c)) ?_
  simp(disch:=omega)only[go_sem,e2]
  exact⟨i+1,by simp,by omega,by omega⟩
 ·simp(disch:=omega)only[go_sem]
theorem Qr7(l:List ET)(hl:l.length≤1000)(g:Nat)(cs:List D)(hcs:cs.all YK=true)(hg:∀x∈l,FC Tryz.prog g (etD x::cs) (.bool false) []):FT 299 [.lst 7 (Y1 l),.clo g cs] (.bool false):=by
 refine fo [] ?_ (hok:=(by simp only[List.all_cons,List.all_nil,Bool.and_true];exact ZN hcs))
 conv in fnC ..=>reduce
 simp(disch:=omega)only[go_sem,Qbo hcs]
 refine QQ (Qr6 l hl g cs hcs hg) ?_
 simp(disch:=omega)only[go_sem,axS]
theorem Qr8(l:List Atr)(hl:l.length≤1000)(g:Nat)(cs:List D)(hcs:cs.all YK=true)(hg:∀x∈l,FC Tryz.prog g (atD x::cs) (.bool false) []):FT 408 [.lst 4 (Ys l),.clo g cs] (.int .i64 (-1)):=by
 refine fo [] ?_ (hok:=(by simp only[List.all_cons,List.all_nil,Bool.and_true];exact ZN hcs))
 conv in fnC ..=>reduce
 have e1:=Qbp hcs
 have e2:=Qbq hcs
 simp(disch:=omega)only[go_sem]
 refine Xb 8 l.length 0 (by simp(disch:=omega)only[go_sem,e2];rfl) (by omega) fun i _ hi=>?_
 simp(disch:=omega)only[go_sem,e2]
 refine QT (fun c=>?_) (fun c=>?_)
 ·simp(disch:=omega)only[go_sem,e1,atD]
  refine QQ (hg _ (gt_mem (by omega) c)) ?_
  simp(disch:=omega)only[go_sem,e2]
  exact⟨i+1,by simp,by omega,by omega⟩
 ·simp(disch:=omega)only[go_sem]
theorem Qr9(l:List Atr)(hl:l.length≤1000)(g:Nat)(cs:List D)(hcs:cs.all YK=true)(hg:∀x∈l,FC Tryz.prog g (atD x::cs) (.bool false) []):FT 356 [.lst 4 (Ys l),.clo g cs] (.bool false):=by
 refine fo [] ?_ (hok:=(by simp only[List.all_cons,List.all_nil,Bool.and_true];exact ZN hcs))
 conv in fnC ..=>reduce
 simp(disch:=omega)only[go_sem,Qbo hcs]
 refine QQ (Qr8 l hl g cs hcs hg) ?_
 simp(disch:=omega)only[go_sem,axS]
theorem Qsa(l:List Slo)(hl:l.length≤1000)(g:Nat)(cs:List D)(hcs:cs.all YK=true)(hg:∀x∈l,FC Tryz.prog g (slD x::cs) (.bool false) []):FT 418 [.lst 4 (XI l),.clo g cs] (.int .i64 (-1)):=by
 refine fo [] ?_ (hok:=(by simp only[List.all_cons,List.all_nil,Bool.and_true];exact ZN hcs))
 conv in fnC ..=>reduce
 have e1:=Qbp hcs
 have e2:=Qbq hcs
 simp(disch:=omega)only[go_sem]
 refine Xb 8 l.length 0 (by simp(disch:=omega)only[go_sem,e2];rfl) (by omega) fun i _ hi=>?_
 simp(disch:=omega)only[go_sem,e2]
 refine QT (fun c=>?_) (fun c=>?_)
 ·simp(disch:=omega)only[go_sem,e1,slD]
  refine QQ (hg _ (gt_mem (by omega) c)) ?_
  simp(disch:=omega)only[go_sem,e2]
  exact⟨i+1,by simp,by omega,by omega⟩
 ·simp(disch:=omega)only[go_sem]
theorem Qsb(l:List Slo)(hl:l.length≤1000)(g:Nat)(cs:List D)(hcs:cs.all YK=true)(hg:∀x∈l,FC Tryz.prog g (slD x::cs) (.bool false) []):FT 365 [.lst 4 (XI l),.clo g cs] (.bool false):=by
 refine fo [] ?_ (hok:=(by simp only[List.all_cons,List.all_nil,Bool.and_true];exact ZN hcs))
 conv in fnC ..=>reduce
 simp(disch:=omega)only[go_sem,Qbo hcs]
 refine QQ (Qsa l hl g cs hcs hg) ?_
 simp(disch:=omega)only[go_sem,axS]
theorem Qsc(l:List Int)(hl:l.length≤1000):FC Tryz.prog 422 [.arr 1 (QR l)] (.tup []) [(0,.arr 1 (QR l.reverse))]:=by
 refine fo [[]] ?_
 conv in fnC ..=>reduce
 simp(disch:=omega)only[go_sem]
 refine Yw (fun s:Nat×List Int=>[(2,.int .i64 s.1),(3,.int .i64 (l.length-1-s.1))]) (fun s=>[(0,.arr 1 (QR s.2))])
  (fun s=>s.2.length=l.length∧2*s.1≤l.length+1∧∀k:Nat,k<l.length→gt s.2 (k:Int)=if k<s.1∨l.length<k+1+s.1 then gt l ((l.length-1-k:Nat):Int) else gt l (k:Int)) (fun s=>l.length-s.1) (0,l) ?_ ?_ ?_
 ·simp(disch:=omega)only[go_sem]
  simp
 ·exact⟨rfl,by simp,fun k hk=>by rw[if_neg (by simp only;omega)]⟩
 ·rintro⟨i,m⟩ ⟨h1,h2,h3⟩
  simp only at h1 h2 h3
  by_cases c:2*i+1<l.length
  ·obtain⟨j,hj⟩:∃j:Nat,(l.length:Int)-1-i=j:=⟨l.length-1-i,by omega⟩
   have ej:l.length-1-i=j:=by omega
   simp(config:={maxSteps:=1000000}) (disch:=first|omega|(simp only[go_sem];omega))only[go_sem,dcT,dcF,hj]
   refine⟨(i+1,(m.set i (gt m (j:Int))).set j (gt m (i:Int))),by simp;omega,⟨by simp;exact h1,by simp only;omega,fun k hk=>?_⟩,by simp only;omega⟩
   simp only
   have e1:gt ((m.set i (gt m (j:Int))).set j (gt m (i:Int))) (k:Int)=if k=j then gt m (i:Int) else if k=i then gt m (j:Int) else gt m (k:Int):=by
    rw[QV (by simp;omega)]
    simp only[List.getElem_set]
    by_cases d1:k=j
    ·subst d1;rw[if_pos rfl,if_pos rfl]
    ·rw[if_neg (Ne.symm d1),if_neg d1]
     by_cases d2:k=i
     ·subst d2;rw[if_pos rfl,if_pos rfl]
     ·rw[if_neg (Ne.symm d2),if_neg d2];exact (QV (by omega)).symm
   rw[e1]
   by_cases d1:k=j
   ·subst d1
    rw[if_pos rfl,h3 i (by omega),if_neg (by omega),if_pos (by omega)]
    congr 1;omega
   ·rw[if_neg d1]
    by_cases d2:k=i
    ·subst d2
     rw[if_pos rfl,h3 j (by omega),if_neg (by omega),if_pos (by omega)]
     congr 1;omega
    ·rw[if_neg d2,h3 k hk]
     by_cases d3:k<i∨l.length<k+1+i
     ·rw[if_pos d3,if_pos (by omega)]
     ·rw[if_neg d3,if_neg (by omega)]
  ·have em:m=l.reverse:=by
    refine List.ext_getElem (by simp;omega) fun k a1 a2=>?_
    have:=h3 k (by omega)
    rw[QV (by omega)] at this
    rw[this,List.getElem_reverse]
    split
    ·rw[QV (by omega)]
    ·rw[QV (by omega)]
     congr 1;omega
   subst em
   simp(disch:=omega)only[go_sem,axS]
theorem Qsd(l:List ByteArray)(hl:l.length≤1000):FT 328 [.lst 1 (Jm l)] (.arr 1 (Jm l)):=by
 refine fo [] ?_
 conv in fnC ..=>reduce
 simp(disch:=omega)only[go_sem]
 refine Qdi (fun c=>?_) (fun _=>?_)
 ·simp(disch:=omega)only[go_sem]
  rw[c]
 ·simp(disch:=omega)only[go_sem]
section
variable {t:Ty}
theorem Qse(h:TyOk t){i k:Nat}(hi:i<t.n.length)(hk:k<i):decide ((gt t.n (k:Int)).nm=(gt t.n (i:Int)).nm)=false:=by
 have:=h.ln
 rw[(h.n k (by omega)).nm,(h.n i hi).nm]
 exact Qdy (by omega) (by omega) (by omega)
theorem Qsf(h:TyOk t){i k:Nat}(hi:i<t.e.length)(hk:k<i):decide ((gt t.e (k:Int)).nm=(gt t.e (i:Int)).nm)=false:=by
 have:=h.le
 rw[(h.e k (by omega)).nm,(h.e i hi).nm]
 exact Qdy (by omega) (by omega) (by omega)
theorem Qsg(x y:NT){b:Bool}(h:decide (x.nm=y.nm)=b):FT 295 [ntD x,.ref (ntD y).cells] (.bool b):=by
 refine fo [] ?_
 conv in fnC ..=>reduce
 simp(disch:=omega)only[go_sem,ntD,h]
theorem Qsh(x y:ET){b:Bool}(h:decide (x.nm=y.nm)=b):FT 300 [etD x,.ref (etD y).cells] (.bool b):=by
 refine fo [] ?_
 conv in fnC ..=>reduce
 simp(disch:=omega)only[go_sem,etD,h]
theorem Qsi(x y:Atr){b:Bool}(h:decide (x.nm=y.nm)=b):FT 357 [atD x,.ref (atD y).cells] (.bool b):=by
 refine fo [] ?_
 conv in fnC ..=>reduce
 simp(disch:=omega)only[go_sem,atD,h]
theorem Qsj(l:List ByteArray)(h:l=[]∨l=[Qbw,sOn]):FT 358 [.lst 1 (Jm l)] (.int .i64 0):=by
 rcases h with rfl|rfl<;>exact Qad (m:=100) (by kernel_rfl)
theorem Qsk{i:Nat}{x:Atr}(h:AtrOk i x)(hi:i<6)(l:List Atr)(hl:l.length≤100)(hn:∀y∈l,y.nm≠x.nm):FT 297 [atD x,.lst 4 (Ys l)] (.int .i64 0):=by
 refine fo [] ?_
 conv in fnC ..=>reduce
 have hm:x.nm∈nmsL:=by rw[h.nm];exact Qae (by omega)
 have r1:=Qr9 l (by omega) 357 [.ref (atD x).cells] rfl fun y hy=>Qsi y x (Qf (hn y hy))
 have r2:=Qsj x.ns (by rcases h.ns with⟨e,_⟩|⟨e,_⟩<;>simp [e])
 obtain⟨nm,lo,hi,ns⟩:=x
 simp only at hm r2
 simp(disch:=omega)only[go_sem,atD]
 refine QQ (Qdw _ hm) ?_
 simp(disch:=omega)only[go_sem]
 refine QQ r1 ?_
 simp(disch:=omega)only[go_sem]
 refine QQ r2 ?_
 rcases h.ns with⟨e1,e2,e3,e4⟩|⟨e1,e2,e3⟩<;>simp only at e1 e2 e3<;>subst e1 e2
 ·simp only at e4
  simp(disch:=omega)only[go_sem,axS]
 ·subst e3
  simp(disch:=omega)only[go_sem,axS]
theorem Qka(h:TyOk t):∀a:Int,IsT t a→FT 296 [tyD t,.int .i64 a] (.arr 4 (Ys (Q0 t a))):=by
 suffices hs:∀a:Int,a<t.n.length→0≤a→FT 296 [tyD t,.int .i64 a] (.arr 4 (Ys (Q0 t a))) from fun a ha=>hs a ha.2 ha.1
 refine JF h (fun a ha h0=>absurd h0 (by omega)) fun a ha ih h0=>?_
 refine fo [] ?_
 conv in fnC ..=>reduce
 have hp:=h.par ha
 rw[Qac h ha]
 obtain⟨i,hi,rfl⟩:=gtI (l:=t.n) ha
 have l1:=X7 h (a:=(gt t.n (i:Int)).par) (by omega)
 have l2:=(h.n i hi).len
 by_cases c:0≤(gt t.n (i:Int)).par
 ·have r:=ih c
  generalize Q0 t (gt t.n (i:Int)).par=A at*
  simp(disch:=omega)only[go_sem,axS,tyD,ntD]
  refine QQ r ?_
  simp(disch:=omega)only[go_sem,ntD]
  rw[QjI]
 ·rw[Qb9 (a:=(gt t.n (i:Int)).par) (by omega)]
  simp(disch:=omega)only[go_sem,axS,tyD,ntD]
theorem Qsl(h:TyOk t)(i:Nat)(hi:i<t.n.length):FT 216 [tyD t,.int .i64 i] (.int .i64 0):=by
 refine fo [[]] ?_
 conv in fnC ..=>reduce
 have o:=h.n i hi
 have l0:=h.ln
 have l1:=o.len
 have m1:(gt t.n (i:Int)).nm∈nmsL:=by rw[o.nm];exact Qae (by omega)
 have g1:=X7 h (a:=i) (by omega)
 have g2:=Qby h i (by omega)
 have g3:=QjJ h i (by omega)
 have ra:=Qka h i ⟨by omega,by omega⟩
 have hp:=o.p0
 have hp2:=o.p1
 have g4:(gt t.n (i:Int)).ats.length≤(Q0 t i).length:=by rw[Qac h (a:=i) ⟨by omega,by omega⟩];simp
 generalize Q0 t i=A at*
 have hlt:(t.n.take i).length=i:=List.length_take_of_le (by omega)
 have r1:=Qr5 (t.n.take i) (by omega) 295 [.ref (ntD (gt t.n (i:Int))).cells] rfl fun y hy=>Qsg y _ (by
  obtain⟨k,hk,rfl⟩:=Xk hy
  rw[hlt] at hk
  rw[Qci hk (by omega)]
  exact Qse h hi hk)
 simp(disch:=omega)only[go_sem,tyD,ntD]
 refine QQ (Qdw _ m1) ?_
 simp(disch:=omega)only[go_sem]
 refine QQ r1 ?_
 simp(disch:=omega)only[go_sem,axS]
 refine QQ ra ?_
 simp(disch:=omega)only[go_sem,axS]
 obtain⟨d,hd⟩:∃d:Nat,A.length=d+(gt t.n (i:Int)).ats.length:=⟨_,(Nat.sub_add_cancel g4).symm⟩
 have e:((A.length:Int)-((gt t.n (i:Int)).ats.length:Int))=d:=by omega
 rw[e]
 refine Xb 7 A.length d rfl (by omega) fun j _ hj=>?_
 simp(disch:=omega)only[go_sem]
 refine QT (fun c=>?_) (fun c=>?_)
 ·obtain⟨n,hn,ho⟩:=g2 _ (gt_mem (l:=A) (j:=(j:Int)) (by omega) (by omega))
  have hlt:(A.take j).length=j:=List.length_take_of_le (by omega)
  simp(disch:=omega)only[go_sem,axS,atD,Nat.sub_zero]
  refine QQ (Qsk ho (by omega) (A.take j) (by omega) fun y hy=>?_) ?_
  ·obtain⟨k,hk,rfl⟩:=Xk hy
   rw[hlt] at hk
   rw[Qci hk (by omega),QV (by omega),QV (by omega)]
   exact List.pairwise_iff_getElem.1 g3 k j (by omega) (by omega) (by omega)
  simp(disch:=omega)only[go_sem,axS]
  exact⟨j+1,by simp,by omega,by omega⟩
 ·simp(disch:=omega)only[go_sem]
theorem Qkb{a b:Int}(h1:a=0)(h2:b= -1):FT 301 [.int .i64 a,.int .i64 b] (.bool true):=by
 subst h1 h2
 exact Qad (m:=100) (by kernel_rfl)
theorem Qkc(t:Ty){n:Int}(h:IsT t n):FT 298 [.int .i64 n,.ref (tyD t).cells] (.bool true):=by
 refine fo [] ?_
 conv in fnC ..=>reduce
 obtain⟨h1,h2⟩:=h
 simp(disch:=omega)only[go_sem,axS,tyD]
theorem Qsm(h:TyOk t)(i:Nat)(hi:i<t.e.length):FT 217 [tyD t,.int .i64 i] (.int .i64 0):=by
 refine fo [] ?_
 conv in fnC ..=>reduce
 have o:=h.e i hi
 have l0:=h.le
 have m1:(gt t.e (i:Int)).nm∈nmsL:=by rw[o.nm];exact Qae (by omega)
 have hlt:(t.e.take i).length=i:=List.length_take_of_le (by omega)
 have r1:=Qr7 (t.e.take i) (by omega) 300 [.ref (etD (gt t.e (i:Int))).cells] rfl fun y hy=>Qsh y _ (by
  obtain⟨k,hk,rfl⟩:=Xk hy
  rw[hlt] at hk
  rw[Qci hk (by omega)]
  exact Qsf h hi hk)
 simp(disch:=omega)only[go_sem,tyD,etD]
 refine QQ (Qdw _ m1) ?_
 simp(disch:=omega)only[go_sem]
 refine QQ r1 ?_
 simp(disch:=omega)only[go_sem]
 refine QQ (Qkc t o.f) ?_
 simp(disch:=omega)only[go_sem]
 refine QQ (Qkc t o.o) ?_
 simp(disch:=omega)only[go_sem]
 refine QQ (Qkb o.ol o.oh) ?_
 simp(disch:=omega)only[go_sem]
 refine QQ (Qkb o.il o.ih) ?_
 simp(disch:=omega)only[go_sem]
theorem Qal(h:TyOk t):FT 136 [tyD t] (.tup [.str (bs []),.int .i64 0]):=by
 refine fo [] ?_
 conv in fnC ..=>reduce
 have l0:=h.ln
 have l1:=h.le
 have l2:=h.pos
 simp(disch:=omega)only[go_sem,axS,tyD]
 refine Xb 29 t.n.length 0 rfl (by omega) fun i _ hi=>?_
 simp(disch:=omega)only[go_sem]
 refine QT (fun c=>?_) (fun c=>?_)
 ·simp(disch:=omega)only[go_sem,ntD]
  refine QQ (Qsl h i (by omega)) ?_
  simp(disch:=omega)only[go_sem,axS]
  exact⟨i+1,by simp,by omega,by omega⟩
 ·simp(disch:=omega)only[go_sem]
  refine Xb 46 t.e.length 0 rfl (by omega) fun i _ hi=>?_
  simp(disch:=omega)only[go_sem]
  refine QT (fun c=>?_) (fun c=>?_)
  ·simp(disch:=omega)only[go_sem,etD]
   refine QQ (Qsm h i (by omega)) ?_
   simp(disch:=omega)only[go_sem,axS]
   exact⟨i+1,by simp,by omega,by omega⟩
  ·simp(disch:=omega)only[go_sem]
   rfl
theorem Qsn(t:Ty){n:Int}(h:IsT t n):FT 370 [.int .i64 n,.ref (tyD t).cells] (.bool false):=by
 refine fo [] ?_
 conv in fnC ..=>reduce
 obtain⟨h1,h2⟩:=h
 simp(disch:=omega)only[go_sem,axS,tyD]
theorem Qga(h:TyOk t)(l:List Int)(hl:l.length≤10)(ha:∀a∈l,IsT t a):FT 316 [tyD t,.lst 1 (QR l)] (.int .i64 0):=by
 refine fo [] ?_
 conv in fnC ..=>reduce
 have r:=JG l (by unfold QS;omega) 370 [.ref (tyD t).cells] rfl (fun _=>false) fun x hx=>Qsn t (ha x hx)
 rw[List.any_eq_false.2 fun _ _=>by simp] at r
 simp(disch:=omega)only[go_sem,tyD]
 refine QQ (Qal h) ?_
 simp(disch:=omega)only[go_sem,axS]
 refine QQ r ?_
 simp(disch:=omega)only[go_sem]
theorem Qso(h:TyOk t)(a:Int)(ha:a<t.n.length):FT 371 [tyD t,.int .i64 a] (.arr 1 (QR (anc t a).reverse)):=by
 refine fo [] ?_
 conv in fnC ..=>reduce
 have hn:=h.ln
 have h8:=QjD h a ha
 simp(disch:=omega)only[go_sem,tyD]
 refine Yw (fun s:Int×List Int=>[(1,.int .i64 s.1),(5,.sl 1 0 s.2.length)]) (fun s=>[(1,.arr 1 (QR s.2))]) (fun s=>s.1<t.n.length∧anc t a=s.2++anc t s.1) (fun s=>(s.1+1).toNat) (a,[]) (by simp(disch:=omega)only[go_sem];rfl) ⟨ha,rfl⟩ ?_
 rintro⟨b,l⟩ ⟨h1,h2⟩
 simp only at h1 h2
 have h9:=congrArg List.length h2
 rw[Qj] at h9
 by_cases c:0≤b
 ·obtain⟨i,hi,rfl⟩:=gtI (l:=t.n) ⟨c,h1⟩
  have hp:=h.par ⟨c,h1⟩
  simp(disch:=omega)only[go_sem,axS,ntD]
  refine⟨((gt t.n (i:Int)).par,l++[(i:Int)]),by simp,⟨by simp only;omega,?_⟩,by simp only;omega⟩
  simp only
  rw[h2,QaI h ⟨c,h1⟩]
  simp
 ·rw[Qbx (a:=b) (by omega),List.append_nil] at h2
  simp(disch:=omega)only[go_sem,axS]
  refine QQ (Qsc l (by omega)) ?_
  simp(disch:=omega)only[go_sem,List.length_reverse]
  rw[h2]
theorem Qgb(h:TyOk t)(a b:Int)(ha:a<t.n.length):FT 317 [tyD t,.int .i64 a,.int .i64 b] (.bool (Xh t a b)):=by
 refine fo [] ?_
 conv in fnC ..=>reduce
 have hn:=h.ln
 have h8:=QjD h a ha
 have r:=Zw (anc t a).reverse b (by unfold QS;simp;omega)
 simp(disch:=omega)only[go_sem,tyD]
 refine QQ (Qso h a ha) ?_
 simp(disch:=omega)only[go_sem]
 refine QQ r ?_
 simp(disch:=omega)only[go_sem]
 simp [Xh]
theorem QbD(h:TyOk t){a:Int}(ha:IsT t a):FT 240 [tyD t,.int .i64 a] (.tup [.arr 4 (Ys (Q0 t a)),.int .i64 0]):=by
 refine fo [] ?_
 conv in fnC ..=>reduce
 have l0:=h.ln
 have ra:=Qka h a ha
 have g:=X7 h ha.2
 have hA:=Qby h a ha.2
 generalize Q0 t a=A at*
 simp(disch:=omega)only[go_sem,tyD]
 refine QQ (Qga h [a] (by simp) (by simpa using ha)) ?_
 simp(disch:=omega)only[go_sem,axS]
 refine QQ ra ?_
 simp(disch:=omega)only[go_sem]
 refine Xb 21 A.length 0 rfl (by omega) fun i _ hi=>?_
 simp(disch:=omega)only[go_sem]
 refine QT (fun c=>?_) (fun c=>?_)
 ·obtain⟨n,hn,ho⟩:=hA _ (gt_mem (l:=A) (j:=(i:Int)) (by omega) (by omega))
  have hl:(gt A (i:Int)).ns.length≤2:=ho.nl
  simp(disch:=omega)only[go_sem,atD]
  refine QQ (Qsd _ (by omega)) ?_
  simp(disch:=omega)only[go_sem,atD,QrY c]
  exact⟨i+1,by simp,by omega,by omega⟩
 ·simp(disch:=omega)only[go_sem]
theorem Qkd(h:TyOk t){k a b:Int}(hk:0≤k∧k<t.e.length)(ha:IsT t a)(hb:IsT t b):FT 226 [tyD t,.int .i64 k,.int .i64 a,.int .i64 b] (.bool (Xh t a (gt t.e k).f&&Xh t b (gt t.e k).o)):=by
 refine fo [[]] ?_
 conv in fnC ..=>reduce
 obtain⟨i,hi,rfl⟩:∃i:Nat,i<t.e.length∧k=i:=⟨k.toNat,by omega,by omega⟩
 have l0:=h.le
 have r1:=Qgb h a (gt t.e (i:Int)).f ha.2
 have r2:=Qgb h b (gt t.e (i:Int)).o hb.2
 simp(disch:=omega)only[go_sem,tyD]
 refine QQ (Qga h [a,b] (by simp) (by simp [ha,hb])) ?_
 simp(disch:=omega)only[go_sem,axS,etD]
 refine QQ r1 ?_
 simp(disch:=omega)only[go_sem]
 cases c:Xh t a (gt t.e (i:Int)).f
 ·simp(disch:=omega)only[go_sem]
 ·simp(disch:=omega)only[go_sem,etD]
  refine QQ r2 ?_
  simp(disch:=omega)only[go_sem]
theorem Qsp(h:TyOk t){a:Int}(ha:IsT t a):FT 378 [tyD t,.int .i64 a] (.tup [.arr 1 (QR (sel (fun i:Nat=>Xh t (i:Int) a) t.n.length)),.int .i64 0]):=by
 refine fo [] ?_
 conv in fnC ..=>reduce
 have l0:=h.ln
 simp(disch:=omega)only[go_sem,tyD]
 refine QQ (Qga h [a] (by simp) (by simpa using ha)) ?_
 simp(disch:=omega)only[go_sem,axS]
 refine Q8 19 t.n.length (fun i=>[(7,.sl 1 0 (sel (fun i:Nat=>Xh t (i:Int) a) i).length)]) (fun i=>[(1,.arr 1 (QR (sel (fun i:Nat=>Xh t (i:Int) a) i)))]) (fun _=>True) (by simp(disch:=omega)only[go_sem];rfl) trivial fun i hi _=>?_
 simp(disch:=omega)only[go_sem]
 refine QT (fun c=>?_) (fun c=>?_)
 ·have hl:=YM (fun i:Nat=>Xh t (i:Int) a) i
  simp(disch:=omega)only[go_sem,tyD]
  refine QQ (Qgb h i a c) ?_
  simp(disch:=omega)only[go_sem]
  cases d:Xh t (i:Int) a
  ·simp(disch:=omega)only[go_sem]
   exact⟨i+1,by rw[J9,d];simp,by omega,by omega⟩
  ·simp(disch:=omega)only[go_sem]
   exact⟨i+1,by rw[J9,d];simp,by omega,by omega⟩
 ·obtain rfl:i=t.n.length:=by omega
  simp(disch:=omega)only[go_sem]
end
end Go.Am
