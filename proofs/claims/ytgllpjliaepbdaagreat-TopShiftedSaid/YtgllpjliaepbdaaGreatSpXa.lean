/- Drafts of graphs; what laws take. -/
import Derived.Test.YtgllpjliaepbdaaGreatSpPa
import Derived.Test.YtgllpjliaepbdaaGreatSpPb
import Derived.Test.YtgllpjliaepbdaaGreatSpPc
import Derived.Test.YtgllpjliaepbdaaGreatSpPd
import Derived.Test.YtgllpjliaepbdaaGreatSpPe
import Derived.Test.YtgllpjliaepbdaaGreatSpPf
import Derived.Test.YtgllpjliaepbdaaGreatSpPg
import Derived.Test.YtgllpjliaepbdaaGreatSpPh
import Derived.Test.YtgllpjliaepbdaaGreatSpPi
import Derived.Test.YtgllpjliaepbdaaGreatSpPj
import Derived.Test.YtgllpjliaepbdaaGreatSpPk
import Derived.Test.YtgllpjliaepbdaaGreatSpPl
import Derived.Test.YtgllpjliaepbdaaGreatAmRu
namespace Go.Am
open Go
set_option linter.unusedVariables false
set_option linter.unusedSimpArgs false
section
variable (P:Program) (F:String→Nat)
end
theorem QPv{z b:Nat}{e:Sh}{l:List Sh}{ds:List D}(h:HasShs (.slc z b e::l) ds):∃a b',ds=a::b'∧XM (.slc z b e) a∧HasShs l b':=by simpa only[HasShs] using h
theorem Qm7{l':List Sh}{l:List Sh}{ds:List D}(h:HasShs (.cat l'::l) ds):∃a b,ds=a++b∧HasShs l' a∧HasShs l b:=by simpa only[HasShs] using h
theorem QPw{ds:List D}(h:HasShs [] ds):ds=[]:=by simpa only[HasShs] using h
def QaP:Sh:=.int .u8
def QaQ:Sh:=.slc 1 1 QaP
def Qcc:Sh:=.cat [QaP,QaP,QaP]
def Qdd:Sh:=.cat [QaQ,.slc 3 3 Qcc]
theorem Q0z{x:D}(h:XM QaP x):∃n:Int,x=.int .u8 n∧XF n:=by
 simp only[QaP,XM] at h
 obtain⟨n,rfl,h1,h2⟩:=h
 exact⟨n,rfl,h1,h2⟩
theorem QPx:∀{xs:List D},(∀y∈xs,XM QaP y)→∃l:List Int,xs=u8s l∧∀v∈l,XF v
 |[],_=>⟨[],rfl,by simp⟩
 |x::xs,h=>by
  obtain⟨l,rfl,hl⟩:=QPx (xs:=xs) fun y hy=>h y (by simp [hy])
  obtain⟨n,rfl,hn⟩:=Q0z (h x (by simp))
  exact⟨n::l,rfl,by simpa [hn] using hl⟩
theorem Qm8{x:D}(h:XM QaQ x):∃l:List Int,x=.lst 1 (u8s l)∧(∀v∈l,XF v)∧l.length≤QW:=by
 simp only[QaQ,XM] at h
 obtain⟨xs,rfl,h1,h2⟩:=h
 obtain⟨l,rfl,hl⟩:=QPx h2
 refine⟨l,rfl,hl,?_⟩
 rw[Qaf] at h1
 unfold reachBytes at h1
 unfold QW
 omega
theorem Q0A{x:D}(h:XM Qcc x):∃e:E,x=.agg [.int .u8 e.t,.int .u8 e.f,.int .u8 e.o]∧XF e.t∧XF e.f∧XF e.o:=by
 simp only[Qcc,XM] at h
 obtain⟨ds,rfl,h⟩:=h
 simp only[QaP,HasShs,XM] at h
 obtain⟨_,_,rfl,⟨a,rfl,a1,a2⟩,_,_,rfl,⟨b,rfl,b1,b2⟩,_,_,rfl,⟨c,rfl,c1,c2⟩,rfl⟩:=h
 exact⟨⟨a,b,c⟩,rfl,⟨a1,a2⟩,⟨b1,b2⟩,⟨c1,c2⟩⟩
theorem QPy:∀{xs:List D},(∀y∈xs,XM Qcc y)→∃l:List E,xs=trs l∧∀v∈l,XF v.t∧XF v.f∧XF v.o
 |[],_=>⟨[],rfl,by simp⟩
 |x::xs,h=>by
  obtain⟨l,rfl,hl⟩:=QPy (xs:=xs) fun y hy=>h y (by simp [hy])
  obtain⟨n,rfl,hn⟩:=Q0A (h x (by simp))
  refine⟨n::l,rfl,fun v hv=>?_⟩
  simp only[Qh] at hv
  rcases hv with rfl|hv
  ·exact hn
  ·exact hl v hv
theorem Q0B{x:D}(h:XM Qdd x):∃g:Dr,x=drD g∧g.ok∧g.n.length≤QW∧g.e.length≤QW:=by
 simp only[Qdd,XM] at h
 obtain⟨ds,rfl,h⟩:=h
 have h':∃a b,ds=a::b∧XM QaQ a∧HasShs [.slc 3 3 Qcc] b:=by simpa only[QaQ,HasShs] using h
 obtain⟨a,_,rfl,h1,h'⟩:=h'
 obtain⟨l,rfl,hl,hl2⟩:=Qm8 h1
 simp only[HasShs,XM] at h'
 obtain⟨_,_,rfl,⟨xs,rfl,hb,h3⟩,rfl⟩:=h'
 obtain⟨es,rfl,he⟩:=QPy h3
 refine⟨⟨l,es⟩,rfl,⟨hl,he⟩,hl2,?_⟩
 rw[QbD] at hb
 unfold reachBytes at hb
 simp only[QW]
 omega
section
variable {P:Program} {F:String→Nat} {α:Type}
end
attribute [local irreducible] W
section
variable (P:Program) (F:String→Nat)
end
section
variable {P:Program} {F:String→Nat} {α:Type}
def QfE:Sh:=.int .u64
theorem QPz{x:D}(h:XM QfE x):∃n:Int,x=.int .u64 n:=by
 simp only[QfE,XM] at h
 obtain⟨n,rfl,_⟩:=h
 exact⟨n,rfl⟩
end
section
variable (P:Program) (F:String→Nat)
end
section
variable {P:Program} {F:String→Nat} {α:Type}
def Qde:Sh:=.cat [.cat [Qdd,QfE,QaQ],QfE,QaQ,Qdd]
theorem QPA{ds:List D}(h:HasShs [QaQ,.slc 3 3 Qcc] ds):∃g:Dr,ds=[.lst 1 (u8s g.n),.lst 3 (trs g.e)]∧g.ok∧g.n.length≤QW∧g.e.length≤QW:=by
 obtain⟨g,e,h1,h2,h3⟩:=Q0B (x:=.agg ds) (by simp only[Qdd,XM];exact⟨ds,rfl,h⟩)
 simp only[drD,D.agg.injEq] at e
 exact⟨g,e,h1,h2,h3⟩
theorem QPB{k:IntKind}{l:List Sh}{ds:List D}(h:HasShs (.int k::l) ds):∃a b',ds=a::b'∧XM (.int k) a∧HasShs l b':=by simpa only[HasShs] using h
theorem Q0C{x:D}(h:XM Qde x):∃m:Mvd,x=mvD m∧m.ok:=by
 simp only[Qde,XM] at h
 obtain⟨ds,rfl,h⟩:=h
 obtain⟨_,_,rfl,k1,k2⟩:=Qm7 h
 obtain⟨_,_,rfl,h11,k3⟩:=Qm7 k1
 obtain⟨_,_,rfl,h12,k4⟩:=QPB k3
 obtain⟨_,_,rfl,h13,k5⟩:=QPv k4
 obtain rfl:=QPw k5
 obtain⟨_,_,rfl,h2,k6⟩:=QPB k2
 obtain⟨_,_,rfl,h3,k7⟩:=QPv k6
 obtain⟨_,_,rfl,h4,k8⟩:=Qm7 k7
 obtain rfl:=QPw k8
 obtain⟨d,rfl,d1,d2,d3⟩:=QPA h11
 obtain⟨k,rfl⟩:=QPz h12
 obtain⟨m,rfl,m1,m2⟩:=Qm8 h13
 obtain⟨p,rfl⟩:=QPz h2
 obtain⟨c,rfl,c1,c2⟩:=Qm8 h3
 obtain⟨g,rfl,g1,g2,g3⟩:=QPA h4
 exact⟨⟨⟨d,k,m⟩,p,c,g⟩,rfl,⟨⟨d1,d2,d3,m2,m1⟩,c2,c1,g1,g2,g3⟩⟩
theorem Q0D(h:Qm6 P F)(args:List D)(ha:Qaw [Qde] args):FC P (F "ap") args (.bool true) []:=by
 simp only[Qaw] at ha
 obtain⟨_,_,rfl,h1,rfl⟩:=ha
 obtain⟨x,rfl,hx⟩:=Q0C h1
 exact h x hx
end
end Go.Am
