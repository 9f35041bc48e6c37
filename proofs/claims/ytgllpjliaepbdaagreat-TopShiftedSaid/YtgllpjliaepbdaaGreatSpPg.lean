/- Parts: graphs of parts, boundaries, what elements close to: the walks. -/
import Derived.Test.YtgllpjliaepbdaaGreatAmZc
import Derived.Test.YtgllpjliaepbdaaGreatSpPa
import Derived.Test.YtgllpjliaepbdaaGreatSpPb
import Derived.Test.YtgllpjliaepbdaaGreatSpPc
import Derived.Test.YtgllpjliaepbdaaGreatSpPd
import Derived.Test.YtgllpjliaepbdaaGreatSpPe
import Derived.Test.YtgllpjliaepbdaaGreatSpPf
namespace Go.Am
open Go
set_option linter.unusedVariables false
set_option linter.unusedSimpArgs false
attribute [local irreducible] W
def QDU:LL:=[qi 4 0]
def QDV:LL:=[qi 5 0]
def QDW:LL:=[qm 6 5,qm 7 0,qz 8 7,qo .lss 9 6 8]
def QDX:LL:=[qm 12 0,qm 13 5,qd 14 1 12 13,ql 15 1 14,qm 16 1,qo .eql 17 15 16]
def QDY:LL:=[qm 18 5,qm 4 18]
def QDZ:LL:=[qm 10 5,qk .add 11 10 1,qm 5 11]
def QeK:LC:=QQ [QQ [.reg QDW [0,1,5,9],.cond (.t 9) .skip (.exit 0)],.block 1 (QQ [.reg QDX [0,1,5,17],.cond (.t 17) (QQ [.reg QDY [4],.ret]) .skip]),.reg QDZ [0,1,5]]
def QD0:LL:=[qi 4 (-1)]
def Qkt(F:Fn):LC:=QQ [.reg QDU [0,1],QQ [.reg QDV [0,1,5],.block 0 (.loop [0,1,5] QeK)],.reg QD0 [4],.ret]
def QYb:Hints:=hn [] [(0,[0,1]),(1,[0,1,5]),(2,[0,1,5,9]),(3,[0,1,5]),(4,[0,1,5,17]),(5,[4]),(6,[4])] [(2,[0,1,5])]
def QD1:LL:=[qB 2 0,qB 3 1,qa 4 [.nl 1,.nl 3],qa 5 [.nl 1,.nl 1],qi 6 0]
def QD2(F:Fn):LL:=[qL 12 2 2,qL 13 2 3,qc 14 (F "at") [.t 12,.t 13],qm 7 14]
def QD3:LL:=[qm 15 7,qk .neq 16 15 0]
def QD4:LL:=[qu 17 [.nl 1,.nl 3] [],qu 18 [.nl 1,.nl 1] [],qm 19 7,qs 2 4 17,qs 2 5 18,qm 6 19]
def QD5:LL:=[qa 8 [.nl 1,.nl 3]]
def QD6:LL:=[qi 9 0]
def QD7:LL:=[qm 20 9,qf 21 0 3,ql 22 1 21,qz 23 22,qo .lss 24 20 23]
def QD8:LL:=[qf 27 0 8,ql 28 1 27,qf 29 0 2,ql 30 1 29,qf 31 0 3,ql 32 1 31,qm 33 9,qd 34 1 32 33,ql 35 1 34,qd 36 1 30 35,ql 37 1 36,
 qQp 38 (.buildSl 1 8 (.int .i64 (0)) 1 [(0,.t 37)]),qp 39 1 8 28 38,qf 40 0 8,qs 1 40 39]
def QD9:LL:=[qm 25 9,qk .add 26 25 1,qm 9 26]
def Qku:LC:=QQ [QQ [.reg QD7 [2,3,4,5,8,9,24],.cond (.t 24) .skip (.exit 0)],.block 1 (.dreg [(1,none,[],true),(11,none,[1],false)] QD8 [2,3,4,5,8,9]),.reg QD9 [2,3,4,5,8,9]]
def QEa:LL:=[qi 10 0]
def QEb:LL:=[qm 41 10,qf 42 1 3,ql 43 1 42,qz 44 43,qo .lss 45 41 44]
def QEc:LL:=[qf 48 1 2,ql 49 1 48,qf 50 1 3,ql 51 1 50,qm 52 10,qd 53 1 51 52,ql 54 1 53,qd 55 3 49 54,qL 56 3 55,qa 11 [.int .i64 (0),.int .i64 (0),.int .i64 (0)],qs 3 11 56]
def QEd(F:Fn):LL:=[qf 57 1 8,ql 58 1 57,qf 59 0 11,ql 60 1 59,qf 61 0 3,ql 62 1 61,qf 63 1 11,ql 64 1 63,qc 65 (F "L") [.t 62,.t 64],qf 66 0 3,ql 67 1 66,qf 68 2 11,ql 69 1 68,qc 70 (F "L") [.t 67,.t 69],
 qu 71 [.int .i64 (0),.int .i64 (0),.int .i64 (0)] [(0,1,.t 60),(1,1,.t 65),(2,1,.t 70)],
 qQp 72 (.buildSl 3 24 (.agg [.int .i64 (0),.int .i64 (0),.int .i64 (0)]) 1 [(0,.t 71)]),qp 73 3 24 58 72,qf 74 1 8,qs 1 74 73]
def QEe:LL:=[qm 46 10,qk .add 47 46 1,qm 10 47]
def Qkv(F:Fn):LC:=QQ [QQ [.reg QEb [2,3,4,5,8,10,45],.cond (.t 45) .skip (.exit 2)],.block 3 (QQ [.dreg [] QEc [2,3,4,5,8,10,11],.dreg [(1,none,[],true),(3,none,[],true),(8,none,[1,3],true),(10,(some 512),[8],false),(12,(some 2048),[8],false),(13,none,[1,3],false),(15,none,[1],false)] (QEd F) [2,3,4,5,8,10]]),.reg QEe [2,3,4,5,8,10]]
def QEf:LL:=[qL 75 2 8,qQp 76 (.buildSl 1 8 (.int .i64 (0)) 0 []),qf 77 0 3,ql 78 1 77,qp 79 1 8 76 78,qQp 80 (.buildSl 1 8 (.int .i64 (0)) 0 []),qf 81 1 3,ql 82 1 81,
 qp 83 1 8 80 82,qu 84 [.nl 1,.nl 1] [(0,1,.t 79),(1,1,.t 83)],qs 2 4 75,qs 2 5 84,qi 6 0]
def Qkw(F:Fn):LC:=QQ [.reg QD1 [2,3,4,5],QQ [.reg (QD2 F) [2,3,4,5,7],.reg QD3 [2,3,4,5,7,16],.cond (.t 16) (QQ [.reg QD4 [4,5,6],.ret]) .skip],.reg QD5 [2,3,4,5,8],QQ [.reg QD6 [2,3,4,5,8,9],.block 0 (.loop [2,3,4,5,8,9] Qku)],QQ [.reg QEa [2,3,4,5,8,10],.block 2 (.loop [2,3,4,5,8,10] (Qkv F))],.dreg [(0,none,[],true),(3,(some 4),[],false),(4,none,[0],true),(7,(some 64),[4],false),(8,none,[0],false)] QEf [4,5,6],.ret]
def QYc:Hints:=hn [] [(0,[2,3,4,5]),(1,[2,3,4,5,7]),(2,[2,3,4,5,7,16]),(3,[4,5,6]),(4,[2,3,4,5,8]),(5,[2,3,4,5,8,9]),(6,[2,3,4,5,8,9,24]),(7,[2,3,4,5,8,9]),(8,[2,3,4,5,8,9]),(9,[2,3,4,5,8,10]),(10,[2,3,4,5,8,10,45]),(11,[2,3,4,5,8,10]),(12,[2,3,4,5,8,10,11]),(13,[2,3,4,5,8,10]),(14,[4,5,6])] [(6,[2,3,4,5,8,9]),(10,[2,3,4,5,8,10])]
attribute [go_sem] QDU QDV QDW QDX QDY QDZ QD0 Qkt QD1 QD2 QD3 QD4 QD5 QD6 QD7 QD8 QD9 QEa QEb QEc QEd QEe QEf Qkw
section
variable (P:Program) (F:String→Nat)
def Qkx:Prop:=∀(l:List Int)(x:Int),l.length≤QW→FC P (F "L") [.lst 1 (QR l),.int .i64 x] (.int .i64 (idx (fun y=>decide (x=y)) l 0)) []
def QcR:Prop:=∀(g:G)(p:Mo),p.sm→FC P (F "C") [gD g,mD p] (.tup [gA (exR g p).1,mA (exR g p).2.1,.int .i64 (exR g p).2.2]) []
end
section
variable {P:Program} {F:String→Nat} {α:Type}
theorem QYd(l:List Int)(x:Int)(hl:l.length≤QW):W P (Qkt F) (Done [.t 4] [] (.int .i64 (idx (fun y=>decide (x=y)) l 0)) []) (init [.lst 1 (QR l),.int .i64 x]):=by
 refine QZ ?_
 unfold QW at hl
 simp(disch:=omega)only[go_sem]
 refine Q5 (fun i:Nat=>⟨[(0,.lst 1 (QR l)),(1,.int .i64 x),(5,.int .i64 i)],[],0⟩) (fun i=>i≤l.length∧idx (fun y=>decide (x=y)) l 0=idx (fun y=>decide (x=y)) (l.drop i) i) (fun i=>l.length-i) 0 ?_ ?_ ?_
 ·simp(disch:=omega)only[go_sem]
  rfl
 ·simp
 ·intro i hi
  by_cases c:i<l.length
  ·have d1:decide ((i:Int)<l.length)=true:=Qd (by omega)
   have hd:=Qcu (fun y=>decide (x=y)) l i c
   by_cases e:gt l i=x
   ·have d2:decide (gt l i=x)=true:=Qd e
    simp(disch:=omega)only[go_sem,QeK,d1,d2]
    rw[hi.2,hd,if_pos (by simp [e])]
   ·have d2:decide (gt l i=x)=false:=Qc e
    simp(disch:=omega)only[go_sem,QeK,d1,d2]
    exact⟨i+1,by simp,⟨by omega,by rw[hi.2,hd,if_neg (by simpa using fun h=>e h.symm)]⟩,by omega⟩
  ·have d1:decide ((i:Int)<l.length)=false:=Qc (by omega)
   simp(disch:=omega)only[go_sem,QeK,d1]
   rw[hi.2,QB (by omega)]
   rfl
theorem QYe(hv:Qet P F)(hb:Qkx P F)(g:G)(p:Mo)(h1:p.sm):W P (Qkw F) (Done [.c 4 true 2,.c 5 true 2,.t 6] [] (.tup [gA (exR g p).1,mA (exR g p).2.1,.int .i64 (exR g p).2.2]) []) (init [gD g,mD p]):=by
 refine QZ ?_
 have r1:=hv g p h1.1 h1.2
 have hR:exR g p=if Yf g p≠0 then (g0,m0,Yf g p) else (ptG g p,p,0):=rfl
 have h0:Yf g p=0→PK g p:=fun h=>validP_ok.1 h
 generalize Yf g p=v at*
 rw[hR]
 clear hR
 obtain⟨gn,ge⟩:=g
 obtain⟨pn,pe⟩:=p
 simp only[gD,mD] at*
 simp(disch:=omega)only[go_sem]
 refine QT r1 ?_
 simp(disch:=omega)only[go_sem]
 refine XX (fun c=>?_) (fun c=>?_)
 ·simp(disch:=omega)only[go_sem]
  simp [c,mA,gA,m0,g0,QR,eds]
 have hk:=h0 c
 have hl:=hk.len
 have hs:=Q8 hk.v
 rw[if_neg (by simp [c])]
 clear h0 r1
 simp only[ptG,gA,mA] at*
 have rb:=fun (x:Int) (hx:x∈pn)=>hb pn x (by unfold QW;omega)
 have rb:∀x∈pn,FC P (F "L") [.lst 1 (QR pn),.int .i64 x] (.int .i64 (Y5 pn x)) []:=fun x hx=>by rw[←QDT hk.n.p hx];exact rb x hx
 simp(disch:=omega)only[go_sem]
 refine Q5 (fun i:Nat=>⟨[(2,.pt 0 0),(3,.pt 1 0),(4,.pt 4 0),(5,.pt 7 0),(8,.pt 10 0),(9,.int .i64 i)],
  [(0,.box [.lst 1 (QR gn),.lst 3 (eds ge)]),(1,.box [.lst 1 (QR pn),.lst 1 (QR pe)]),(2,.arr 1 []),(3,.arr 3 []),(4,.box [.sl 2 0 0,.sl 3 0 0]),(5,.arr 1 []),(6,.arr 1 []),(7,.box [.sl 5 0 0,.sl 6 0 0]),
   (8,.arr 1 (QR (thr (pn.take i) gn))),(9,.arr 3 []),(10,.box [.sl 8 0 i,.sl 9 0 0])],11⟩) (fun i=>i≤pn.length) (fun i=>pn.length-i) 0 ?_ ?_ ?_
 ·simp(disch:=omega)only[go_sem]
  rfl
 ·simp
 ·intro i hi
  have tl:(thr (pn.take i) gn).length=i:=by rw[Xp,Qj];omega
  by_cases e:i<pn.length
  ·have d1:decide ((i:Int)<pn.length)=true:=Qd (by omega)
   have hb1:=hk.n.b _ (gt_mem (l:=pn) (j:=(i:Int)) (by omega) (by omega))
   simp only at hb1
   have hst:=Qcy (b:=gn) e
   simp(disch:=omega)only[go_sem,Qku,d1,tl]
   exact⟨i+1,by simp [hst],by omega,by omega⟩
  ·have d1:decide ((i:Int)<pn.length)=false:=Qc (by omega)
   obtain rfl:i=pn.length:=by omega
   rw[List.take_length] at tl
   simp(disch:=omega)only[go_sem,Qku,d1,tl]
   refine Q5 (fun i:Nat=>⟨[(2,.pt 0 0),(3,.pt 1 0),(4,.pt 4 0),(5,.pt 7 0),(8,.pt 10 0),(10,.int .i64 i)],
    [(0,.box [.lst 1 (QR gn),.lst 3 (eds ge)]),(1,.box [.lst 1 (QR pn),.lst 1 (QR pe)]),(2,.arr 1 []),(3,.arr 3 []),(4,.box [.sl 2 0 0,.sl 3 0 0]),(5,.arr 1 []),(6,.arr 1 []),(7,.box [.sl 5 0 0,.sl 6 0 0]),
     (8,.arr 1 (QR (thr pn gn))),(9,.arr 3 (eds (exL ⟨gn,ge⟩ pn (pe.take i)))),(10,.box [.sl 8 0 pn.length,.sl 9 0 i])],11⟩) (fun i=>i≤pe.length) (fun i=>pe.length-i) 0 ?_ ?_ ?_
   ·simp(disch:=omega)only[go_sem]
    rfl
   ·simp
   ·intro i hi
    have el:(exL ⟨gn,ge⟩ pn (pe.take i)).length=i:=by rw[Je,Qj];omega
    by_cases e:i<pe.length
    ·have d1:decide ((i:Int)<pe.length)=true:=Qd (by omega)
     have hm:=gt_mem (l:=pe) (j:=(i:Int)) (by omega) (by omega)
     have hb1:=hk.e.b _ hm
     have hb2:=hk.d _ hm
     simp only at hb1 hb2
     have hst:=QDR (g:=⟨gn,ge⟩) (pn:=pn) e
     simp only at hst
     have rf:=rb (gt ge (gt pe i)).f hb2.1
     have ro:=rb (gt ge (gt pe i)).o hb2.2
     simp(disch:=omega)only[go_sem,Qkv,d1,el]
     refine QT rf ?_
     simp(disch:=omega)only[go_sem]
     refine QT ro ?_
     simp(disch:=omega)only[go_sem,el]
     exact⟨i+1,by simp [hst],by omega,by omega⟩
    ·have d1:decide ((i:Int)<pe.length)=false:=Qc (by omega)
     obtain rfl:i=pe.length:=by omega
     rw[List.take_length] at el
     simp(disch:=omega)only[go_sem,Qkv,d1,tl,el]
     try rfl
end
structure Sq where
 a:G
 b:G
 c:G
 d:G
 f:Mo
 g:Mo
 h:Mo
 k:Mo
 deriving DecidableEq
def Sq.dn(s:Sq):Sp:=⟨s.a,s.b,s.c,s.f,s.g⟩
def Sq.up(s:Sq):Cs:=⟨s.b,s.c,s.d,s.h,s.k⟩
def Sq.sm(s:Sq):Prop:=s.f.sm∧s.g.sm∧s.h.sm∧s.k.sm
section
variable (P:Program) (F:String→Nat)
def QYf(s:Sq):Prop:=(s.a.n.length≤QW∧s.a.e.length≤QW)∧(s.b.n.length≤QW∧s.b.e.length≤QW)∧(s.c.n.length≤QW∧s.c.e.length≤QW)∧(s.d.n.length≤QW∧s.d.e.length≤QW)∧s.sm
end
section
variable {P:Program} {F:String→Nat} {α:Type}
structure QOk(s:Sq):Prop where
 f:MOk s.a s.b s.f
 g:MOk s.a s.c s.g
 h:MOk s.b s.d s.h
 k:MOk s.c s.d s.k
theorem MOk.fit{a b c:G}{m n:Mo}(hm:MOk a b m)(hn:MOk b c n):(m.n.length≤40∧m.e.length≤80)∧(∀x∈m.n,0≤x∧x<n.n.length)∧∀x∈m.e,0≤x∧x<n.e.length:=by
 have:=Q8 hm.va
 have h1:=hm.ln
 have h2:=hm.le
 refine⟨by omega,fun x hx=>?_,fun x hx=>?_⟩
 ·rw[hn.ln];exact hm.nb x hx
 ·rw[hn.le];exact hm.eb x hx
end
def QYg(s t:Sq):Sq:=⟨s.a,t.b,s.c,t.d,QY s.f t.f,s.g,t.h,QY s.k t.k⟩
section
variable (P:Program) (F:String→Nat)
end
section
variable {P:Program} {F:String→Nat} {α:Type}
end
section
variable (P:Program) (F:String→Nat)
end
section
variable {P:Program} {F:String→Nat} {α:Type}
theorem idx_neg{l:List Int}{x:Int}:idx (fun y=>decide (x=y)) l 0<0↔¬x∈l:=by
 have:=QbC (fun y=>decide (x=y)) l 0 (by omega)
 have h2:(l.any fun y=>decide (x=y))=decide (x∈l):=by
  rw[Bool.eq_iff_iff];simp
 rw[h2,decide_eq_decide] at this
 rw[←this]
 omega
theorem QcS{l:List Int}(hn:l.Nodup){k:Nat}(hk:k<l.length):idx (fun y=>decide (gt l k=y)) l 0=k:=by
 have hm:gt l k∈l:=gt_mem (by omega) (by omega)
 have h0:¬idx (fun y=>decide (gt l k=y)) l 0<0:=fun h=>idx_neg.1 h hm
 have hs:=Qep (fun y=>decide (gt l k=y)) l 0 (by omega)
 obtain⟨j,e,hj,he,_⟩:=hs
 rw[Int.zero_add] at e
 rw[e]
 have he:gt l k=gt l j:=of_decide_eq_true he
 exact congrArg _ (Y0 hn hj hk he.symm)
end
section
variable (P:Program) (F:String→Nat)
end
section
variable {P:Program} {F:String→Nat} {α:Type}
structure PsOk(s t:Sq):Prop where
 qs:QOk s
 qt:QOk t
 a:t.a=s.b
 c:t.c=s.d
 g:t.g=s.h
theorem PsOk.ok{s t:Sq}(h:PsOk s t):QOk (QYg s t):=by
 refine⟨?_,h.qs.g,h.qt.h,?_⟩
 ·have:=h.qt.f
  rw[h.a] at this
  exact JG h.qs.f this
 ·have:=h.qt.k
  rw[h.c] at this
  exact JG h.qs.k this
theorem QOk.bd{s:Sq}(h:QOk s):QYf s:=by
 have a:=Q8 h.f.va
 have b:=Q8 h.f.vb
 have c:=Q8 h.g.vb
 have d:=Q8 h.h.vb
 have f:=h.f.fit h.h
 have g:=h.g.fit h.k
 have l1:=h.h.ln
 have l2:=h.h.le
 have l3:=h.k.ln
 have l4:=h.k.le
 refine⟨⟨?_,?_⟩,⟨?_,?_⟩,⟨?_,?_⟩,⟨?_,?_⟩,⟨?_,?_⟩,⟨?_,?_⟩,⟨?_,?_⟩,?_,?_⟩<;>unfold QW<;>omega
end
def Zl(ns:List Int)(x y:E):Bool:=decide (y.t=x.t)&&(decide (y.f=gt ns x.f)&&decide (y.o=gt ns x.o))
def Qb3(a b:G)(ns:List Int)(e:Int):List Int:=sel (fun k:Nat=>Zl ns (gt a.e e) (gt b.e k)) b.e.length
def aE(a b:G)(ns:List Int):Nat→List Int→List Mo→List Mo
 |0,es,out=>if 2000<out.length then out else out++[⟨ns,es⟩]
 |n+1,es,out=>if 2000<out.length then out else (Qb3 a b ns es.length).foldl (fun o x=>aE a b ns n (es++[x]) o) out
def mxE(x:E):Int:=if x.f<x.o then x.o else x.f
def QeL(b:G)(ns:List Int)(x:E):Bool:=!(decide (mxE x=(ns.length:Int)-1))||(List.range b.e.length).any fun k:Nat=>Zl ns x (gt b.e k)
def QaG(a b:G)(ns:List Int):Bool:=a.e.all (QeL b ns)
def aN(a b:G):Nat→List Int→List Mo→List Mo
 |0,ns,out=>if 2000<out.length then out else aE a b ns a.e.length [] out
 |n+1,ns,out=>if 2000<out.length then out else
  (List.range b.n.length).foldl (fun o (i:Nat)=>if gt b.n i=gt a.n ns.length∧QaG a b (ns++[(i:Int)])=true then aN a b n (ns++[(i:Int)]) o else o) out
def QaH(a b:G):Int:=if QX a≠0 then QX a else if QX b≠0 then QX b else if 2000<(aN a b a.n.length [] []).length then 3 else 0
def Jy(a b:G):List Mo:=if QaH a b=0 then aN a b a.n.length [] [] else []
section
variable (P:Program) (F:String→Nat)
end
section
variable {P:Program} {F:String→Nat} {α:Type}
theorem QcT{β:Type}{f:List Mo→β→List Mo}(hf:∀o x,o.length≤2001→(f o x).length≤2001):∀(l:List β)(o:List Mo),o.length≤2001→(l.foldl f o).length≤2001
 |[],o,h=>h
 |x::l,o,h=>by rw[List.foldl_cons];exact QcT hf l _ (hf o x h)
theorem Qky(a b:G)(ns:List Int):∀(n:Nat)(es:List Int)(out:List Mo),out.length≤2001→(aE a b ns n es out).length≤2001
 |0,es,out,h=>by
  rw[aE];split
  ·exact h
  ·simp;omega
 |n+1,es,out,h=>by
  rw[aE];split
  ·exact h
  ·exact QcT (fun o x ho=>Qky a b ns n _ o ho) _ _ h
theorem QeM(a b:G):∀(n:Nat)(ns:List Int)(out:List Mo),out.length≤2001→(aN a b n ns out).length≤2001
 |0,ns,out,h=>by
  rw[aN];split
  ·exact h
  ·exact Qky _ _ _ _ _ _ h
 |n+1,ns,out,h=>by
  rw[aN];split
  ·exact h
  ·refine QcT (fun o x ho=>?_) _ _ h
   split
   ·exact QeM a b n _ o ho
   ·exact ho
theorem QYh{g:G}(h:QX g=0):∀x,x∈g.e→0≤x.f∧0≤x.o:=fun x hx=>by
 have:=YZ ((Q8 h).2.2.2 x hx)
 omega
end
def QEg:LL:=[qB 3 0,qB 4 1,qb 6 false]
def QEh:LL:=[qm 12 2,qz 13 12,qk .sub 14 13 1,qm 7 14]
def QEi:LL:=[qi 8 0]
def QEj:LL:=[qm 15 8,qf 16 1 3,ql 17 1 16,qz 18 17,qo .lss 19 15 18]
def QEk:LL:=[qf 22 1 3,ql 23 1 22,qm 24 8,qd 25 3 23 24,qL 26 3 25,qa 9 [.int .i64 (0),.int .i64 (0),.int .i64 (0)],qs 3 9 26]
def QEl:LL:=[qf 27 1 9,ql 28 1 27,qf 29 2 9,ql 30 1 29,qQp 31 (.mx [.t 28,.t 30]),qm 32 7,qo .neq 33 31 32]
def QEm:LL:=[qb 10 false]
def QEn:LL:=[qi 11 0]
def QEo:LL:=[qm 34 11,qf 35 1 4,ql 36 1 35,qz 37 36,qo .lss 38 34 37,qm 39 38,qg 39 true (qm 40 10),qg 39 true (qv 41 40),qP 42 39 41]
def QEp:LL:=[qf 45 1 4,ql 46 1 45,qm 47 11,qd 48 3 46 47,qL 49 3 48,qf 50 0 9,ql 51 1 50,qm 52 2,qf 53 1 9,ql 54 1 53,qd 55 1 52 54,ql 56 1 55,qm 57 2,qf 58 2 9,ql 59 1 58,qd 60 1 57 59,
 ql 61 1 60,qu 62 [.int .i64 (0),.int .i64 (0),.int .i64 (0)] [(0,1,.t 51),(1,1,.t 56),(2,1,.t 61)],qQp 63 (.eqA 3 false (.t 49) (.t 62)),qm 10 63]
def QEq:LL:=[qm 43 11,qk .add 44 43 1,qm 11 44]
def QEr:LC:=QQ [QQ [.reg QEo [2,3,4,7,8,9,10,11,42],.cond (.t 42) .skip (.exit 2)],.block 3 (.dreg [] QEp [2,3,4,7,8,9,10,11]),.reg QEq [2,3,4,7,8,9,10,11]]
def QEs:LL:=[qm 64 10,qv 65 64]
def QEt:LL:=[qb 6 false]
def QEu:LL:=[qm 20 8,qk .add 21 20 1,qm 8 21]
def QEv:LC:=QQ [QQ [.reg QEj [2,3,4,7,8,19],.cond (.t 19) .skip (.exit 0)],.block 1 (QQ [.reg QEk [2,3,4,7,8,9],QQ [.reg QEl [2,3,4,7,8,9,33],.cond (.t 33) (.exit 1) .skip],.reg QEm [2,3,4,7,8,9,10],QQ [.reg QEn [2,3,4,7,8,9,10,11],.block 2 (.loop [2,3,4,7,8,9,10,11] QEr)],.reg QEs [2,3,4,7,8,65],.cond (.t 65) (QQ [.reg QEt [6],.ret]) .skip]),.reg QEu [2,3,4,7,8]]
def QEw:LL:=[qb 6 true]
def Qkz(F:Fn):LC:=QQ [.reg QEg [2,3,4],.reg QEh [2,3,4,7],QQ [.reg QEi [2,3,4,7,8],.block 0 (.loop [2,3,4,7,8] QEv)],.reg QEw [6],.ret]
def QYi:Hints:=hn [] [(0,[2,3,4]),(1,[2,3,4,7]),(2,[2,3,4,7,8]),(3,[2,3,4,7,8,19]),(4,[2,3,4,7,8]),(5,[2,3,4,7,8,9]),(6,[2,3,4,7,8,9,33]),(7,[2,3,4,7,8,9,10]),(8,[2,3,4,7,8,9,10,11]),(9,[2,3,4,7,8,9,10,11,42]),(10,[2,3,4,7,8,9,10,11]),(11,[2,3,4,7,8,9,10,11]),(12,[2,3,4,7,8,65]),(13,[6]),(14,[6])] [(3,[2,3,4,7,8]),(9,[2,3,4,7,8,9,10,11])]
def QEx:LL:=[qB 5 0,qB 6 1,qn 10 2]
def QEy:LL:=[qm 13 4,qz 14 13,qk .gtr 15 14 2000]
def QEz:LL:=[qm 16 4,qm 10 16]
def QEA:LL:=[qm 17 3,qz 18 17,qf 19 1 5,ql 20 1 19,qz 21 20,qo .eql 22 18 21]
def QEB:LL:=[qm 23 4,qQp 24 (.buildSl 1 8 (.int .i64 (0)) 0 []),qm 25 2,qp 26 1 8 24 25,qQp 27 (.buildSl 1 8 (.int .i64 (0)) 0 []),qm 28 3,qp 29 1 8 27 28,
 qu 30 [.nl 1,.nl 1] [(0,1,.t 26),(1,1,.t 29)],qQp 31 (.buildSl 2 48 (.agg [.lst 1 [],.lst 1 []]) 1 [(0,.t 30)]),qp 32 2 48 23 31,qm 10 32]
def QEC:LL:=[qf 33 1 5,ql 34 1 33,qm 35 3,qz 36 35,qd 37 3 34 36,qL 38 3 37,qa 11 [.int .i64 (0),.int .i64 (0),.int .i64 (0)],qs 3 11 38]
def QED:LL:=[qi 12 0]
def QEE:LL:=[qm 39 12,qf 40 1 6,ql 41 1 40,qz 42 41,qo .lss 43 39 42]
def QEF:LL:=[qf 46 1 6,ql 47 1 46,qm 48 12,qd 49 3 47 48,qL 50 3 49,qf 51 0 11,ql 52 1 51,qm 53 2,qf 54 1 11,ql 55 1 54,qd 56 1 53 55,ql 57 1 56,qm 58 2,qf 59 2 11,ql 60 1 59,qd 61 1 58 60,
 ql 62 1 61,qu 63 [.int .i64 (0),.int .i64 (0),.int .i64 (0)] [(0,1,.t 52),(1,1,.t 57),(2,1,.t 62)],qQp 64 (.eqA 3 false (.t 50) (.t 63))]
def QEG(F:Fn):LL:=[qL 65 2 5,qL 66 2 6,qm 67 2,qQp 68 (.buildSl 1 8 (.int .i64 (0)) 0 []),qm 69 3,qp 70 1 8 68 69,qm 71 12,qQp 72 (.buildSl 1 8 (.int .i64 (0)) 1 [(0,.t 71)]),
 qp 73 1 8 70 72,qm 74 4,qQp 75 (.call (F "Q") [.t 65,.t 66,.t 67,.t 73,.t 74] [.rd,.rd,.rd,.rd,.ow]),qm 4 75]
def QEH:LL:=[qm 44 12,qk .add 45 44 1,qm 12 45]
def QEI(F:Fn):LC:=QQ [QQ [.reg QEE [2,3,4,5,6,11,12,43],.cond (.t 43) .skip (.exit 0)],.block 1 (QQ [.dreg [] QEF [2,3,4,5,6,11,12,64],.cond (.t 64) (.dreg [(0,none,[],true),(1,none,[],true),(5,none,[0,1],true),(7,(some 64),[0,1,5],false),(8,none,[0,1],false)] (QEG F) [2,3,4,5,6,11,12]) .skip]),.reg QEH [2,3,4,5,6,11,12]]
def QEJ:LL:=[qm 76 4,qm 10 76]
def QkA(F:Fn):LC:=QQ [.reg QEx [2,3,4,5,6],QQ [.reg QEy [2,3,4,5,6,15],.cond (.t 15) (QQ [.reg QEz [10],.ret]) .skip],QQ [.reg QEA [2,3,4,5,6,22],.cond (.t 22) (QQ [.reg QEB [10],.ret]) .skip],.reg QEC [2,3,4,5,6,11],QQ [.reg QED [2,3,4,5,6,11,12],.block 0 (.loop [2,3,4,5,6,11,12] (QEI F))],.reg QEJ [10],.ret]
def QYj:Hints:=hn [] [(0,[2,3,4,5,6]),(1,[2,3,4,5,6,15]),(2,[10]),(3,[2,3,4,5,6,22]),(4,[10]),(5,[2,3,4,5,6,11]),(6,[2,3,4,5,6,11,12]),(7,[2,3,4,5,6,11,12,43]),(8,[2,3,4,5,6,11,12]),(9,[2,3,4,5,6,11,12,64]),(10,[2,3,4,5,6,11,12]),(11,[10])] [(7,[2,3,4,5,6,11,12])]
def QEK:LL:=[qB 4 0,qB 5 1,qn 8 2]
def QEL:LL:=[qm 11 3,qz 12 11,qk .gtr 13 12 2000]
def QEM:LL:=[qm 14 3,qm 8 14]
def QEN:LL:=[qm 15 2,qz 16 15,qf 17 0 4,ql 18 1 17,qz 19 18,qo .eql 20 16 19]
def QEO(F:Fn):LL:=[qL 21 2 4,qL 22 2 5,qm 23 2,qm 24 3,qQp 25 (.call (F "Q") [.t 21,.t 22,.t 23,.k (.nl 0),.t 24] [.rd,.rd,.rd,.rd,.ow]),qm 8 25]
def QEP:LL:=[qi 9 0]
def QEQ:LL:=[qm 26 9,qf 27 0 5,ql 28 1 27,qz 29 28,qo .lss 30 26 29]
def QER:LL:=[qf 33 0 5,ql 34 1 33,qm 35 9,qd 36 1 34 35,ql 37 1 36,qf 38 0 4,ql 39 1 38,qm 40 2,qz 41 40,qd 42 1 39 41,ql 43 1 42,qo .neq 44 37 43]
def QES:LL:=[qQp 45 (.buildSl 1 8 (.int .i64 (0)) 0 []),qm 46 2,qp 47 1 8 45 46,qm 48 9,qQp 49 (.buildSl 1 8 (.int .i64 (0)) 1 [(0,.t 48)]),qp 50 1 8 47 49,qm 10 50]
def QET(F:Fn):LL:=[qL 51 2 4,qL 52 2 5,qm 53 10,qc 54 (F "aM") [.t 51,.t 52,.t 53]]
def QEU(F:Fn):LL:=[qL 55 2 4,qL 56 2 5,qm 57 10,qm 58 3,qQp 59 (.call (F "z") [.t 55,.t 56,.t 57,.t 58] [.rd,.rd,.rd,.ow]),qm 3 59]
def QEV:LL:=[qm 31 9,qk .add 32 31 1,qm 9 32]
def QEW(F:Fn):LC:=QQ [QQ [.reg QEQ [2,3,4,5,9,30],.cond (.t 30) .skip (.exit 0)],.block 1 (QQ [QQ [.dreg [] QER [2,3,4,5,9,44],.cond (.t 44) (.exit 1) .skip],.reg QES [2,3,4,5,9,10],.reg (QET F) [2,3,4,5,9,10,54],.cond (.t 54) (.reg (QEU F) [2,3,4,5,9]) .skip]),.reg QEV [2,3,4,5,9]]
def QEX:LL:=[qm 60 3,qm 8 60]
def QkB(F:Fn):LC:=QQ [.reg QEK [2,3,4,5],QQ [.reg QEL [2,3,4,5,13],.cond (.t 13) (QQ [.reg QEM [8],.ret]) .skip],QQ [.reg QEN [2,3,4,5,20],.cond (.t 20) (QQ [.reg (QEO F) [8],.ret]) .skip],QQ [.reg QEP [2,3,4,5,9],.block 0 (.loop [2,3,4,5,9] (QEW F))],.reg QEX [8],.ret]
def QYk:Hints:=hn [] [(0,[2,3,4,5]),(1,[2,3,4,5,13]),(2,[8]),(3,[2,3,4,5,20]),(4,[8]),(5,[2,3,4,5,9]),(6,[2,3,4,5,9,30]),(7,[2,3,4,5,9]),(8,[2,3,4,5,9,44]),(9,[2,3,4,5,9,10]),(10,[2,3,4,5,9,10,54]),(11,[2,3,4,5,9]),(12,[8])] [(6,[2,3,4,5,9])]
def QEY:LL:=[qB 2 0,qB 3 1,qn 4 2,qi 5 0]
def QEZ(F:Fn):LL:=[qL 9 2 2,qc 10 (F "d") [.t 9],qm 6 10]
def QE0:LL:=[qm 11 6,qk .neq 12 11 0]
def QE1:LL:=[qm 13 6,qn 4 2,qm 5 13]
def QE2(F:Fn):LL:=[qL 14 2 3,qc 15 (F "d") [.t 14],qm 7 15]
def QE3:LL:=[qm 16 7,qk .neq 17 16 0]
def QE4:LL:=[qm 18 7,qn 4 2,qm 5 18]
def QE5(F:Fn):LL:=[qL 19 2 2,qL 20 2 3,qQp 21 (.call (F "z") [.t 19,.t 20,.k (.nl 0),.k (.nl 0)] [.rd,.rd,.rd,.ow]),qm 8 21]
def QE6:LL:=[qm 22 8,qz 23 22,qk .gtr 24 23 2000]
def QE7:LL:=[qn 4 2,qi 5 3]
def QE8:LL:=[qm 25 8,qm 4 25,qi 5 0]
def QkC(F:Fn):LC:=QQ [.reg QEY [2,3],QQ [.reg (QEZ F) [2,3,6],.reg QE0 [2,3,6,12],.cond (.t 12) (QQ [.reg QE1 [4,5],.ret]) .skip],QQ [.reg (QE2 F) [2,3,7],.reg QE3 [2,3,7,17],.cond (.t 17) (QQ [.reg QE4 [4,5],.ret]) .skip],.reg (QE5 F) [8],QQ [.reg QE6 [8,24],.cond (.t 24) (QQ [.reg QE7 [4,5],.ret]) .skip],.reg QE8 [4,5],.ret]
attribute [go_sem] QEg QEh QEi QEj QEk QEl QEm QEn QEo QEp QEq QEs QEt QEu QEw Qkz QEx QEy QEz QEA QEB QEC QED QEE QEF QEG QEH QEJ QkA QEK QEL QEM QEN QEO QEP QEQ QER QES QET QEU QEV QEX QkB QEY QEZ QE0 QE1 QE2 QE3 QE4 QE5 QE6 QE7 QE8 QkC
section
variable (P:Program) (F:String→Nat)
def QkD:Prop:=∀(a b:G)(ns:List Int),QX a=0→QX b=0→ns.length≤a.n.length→0<ns.length→FC P (F "aM") [gD a,gD b,.lst 1 (QR ns)] (.bool (QaG a b ns)) []
def QkE(n:Nat):Prop:=∀(a b:G)(ns es:List Int)(out:List Mo),QX a=0→QX b=0→ns.length=a.n.length→es.length+n=a.e.length→out.length≤2001→
 FC P (F "Q") [gD a,gD b,.lst 1 (QR ns),.lst 1 (QR es),.arr 2 (pts out)] (.arr 2 (pts (aE a b ns n es out))) []
def QkF:Prop:=∀n,QkE P F n
def QkG(n:Nat):Prop:=∀(a b:G)(ns:List Int)(out:List Mo),QX a=0→QX b=0→ns.length+n=a.n.length→out.length≤2001→
 FC P (F "z") [gD a,gD b,.lst 1 (QR ns),.arr 2 (pts out)] (.arr 2 (pts (aN a b n ns out))) []
def QkH:Prop:=∀n,QkG P F n
def QkI:Prop:=∀(a b:G),FC P (F "bB") [gD a,gD b] (.tup [.arr 2 (pts (Jy a b)),.int .i64 (QaH a b)]) []
end
section
variable {P:Program} {F:String→Nat} {α:Type}
theorem QYl(p:Nat→Bool)(k:Nat):(List.range (k+1)).any p=((List.range k).any p||p k):=by rw[List.range_succ,List.any_append];simp
theorem QYm{p:Nat→Bool}{k n:Nat}(h:k≤n)(hk:(List.range k).any p=true):(List.range n).any p=true:=by
 rw[List.any_eq_true] at*
 obtain⟨x,hx,hp⟩:=hk
 exact⟨x,by simp at hx ⊢;omega,hp⟩
theorem QYn(a b:G)(ns:List Int)(va:QX a=0)(vb:QX b=0)(h1:ns.length≤a.n.length)(h2:0<ns.length):
  W P (Qkz F) (Done [.t 6] [] (.bool (QaG a b ns)) []) (init [gD a,gD b,.lst 1 (QR ns)]):=by
 refine QZ ?_
 have ap:=QYh va
 obtain⟨a1,a2,_,a4⟩:=Q8 va
 obtain⟨b1,b2,_⟩:=Q8 vb
 have hp:QaG a b ns=a.e.all (QeL b ns):=rfl
 rw[hp]
 have hpE:∀x,QeL b ns x=(!(decide (mxE x=(ns.length:Int)-1))||(List.range b.e.length).any fun k:Nat=>Zl ns x (gt b.e k)):=fun _=>rfl
 obtain⟨an,ae⟩:=a
 obtain⟨bn,be⟩:=b
 simp only at*
 generalize QeL ⟨bn,be⟩ ns=pe at*
 simp only[gD] at*
 simp(disch:=omega)only[go_sem]
 refine Q5 (fun i:Nat=>⟨[(2,D.lst 1 (QR ns)),(3,D.pt 0 0),(4,D.pt 1 0),(7,.int .i64 ((ns.length:Int)-1)),(8,.int .i64 i)],[(0,Ent.box [D.lst 1 (QR an),D.lst 3 (eds ae)]),(1,Ent.box [D.lst 1 (QR bn),D.lst 3 (eds be)])],2⟩)
  (fun i=>i≤ae.length∧ae.all pe=(ae.drop i).all pe) (fun i=>ae.length-i) 0 ?_ ?_ ?_
 ·simp(disch:=omega)only[go_sem]
  rfl
 ·simp
 ·rintro i ⟨hi,he⟩
  simp(disch:=omega)only[go_sem,QEv]
  refine Q7 (fun c=>?_) (fun c=>?_)
  ·have hd:=Qaz (l:=ae) (i:=i) (by omega)
   have hall:(ae.drop i).all pe=(pe (gt ae i)&&(ae.drop (i+1)).all pe):=by rw[hd];rfl
   have w2:=hpE (gt ae i)
   have hx:=ap _ (gt_mem (l:=ae) (j:=i) (by omega) (by omega))
   simp only[mxE] at w2
   simp(disch:=omega)only[go_sem]
   refine XX (fun d=>?_) (fun d=>?_)
   ·simp only[d,decide_false,Bool.not_false,Bool.true_or] at w2
    simp(disch:=omega)only[go_sem,d]
    exact⟨i+1,by simp,⟨by omega,by rw[he,hall,w2];simp⟩,by omega⟩
   ·simp only[d,decide_true,Bool.not_true,Bool.false_or] at w2
    have hfo:(gt ae i).f<ns.length∧(gt ae i).o<ns.length:=by split at d<;>omega
    generalize hxx:gt ae (i:Int)=x at*
    have hsu:=QYl (fun k:Nat=>Zl ns x (gt be k))
    have hmo:=fun k (h:k≤be.length)=>QYm (p:=fun k:Nat=>Zl ns x (gt be k)) h
    have hz:(List.range 0).any (fun k:Nat=>Zl ns x (gt be k))=false:=rfl
    generalize hA:(fun n:Nat=>(List.range n).any fun k:Nat=>Zl ns x (gt be k))=A
    have hA':∀n,((List.range n).any fun k:Nat=>Zl ns x (gt be k))=A n:=fun n=>by rw[←hA]
    simp only[hA'] at hsu hmo hz w2
    clear hA hA'
    simp only[Zl] at hsu
    simp(disch:=omega)only[go_sem,hxx]
    refine Q5 (fun k:Nat=>⟨[(2,D.lst 1 (QR ns)),(3,D.pt 0 0),(4,D.pt 1 0),(7,.int .i64 ((ns.length:Int)-1)),(8,.int .i64 i),(9,D.pt 2 0),(10,.bool (A k)),(11,.int .i64 k)],
     [(0,Ent.box [D.lst 1 (QR an),D.lst 3 (eds ae)]),(1,Ent.box [D.lst 1 (QR bn),D.lst 3 (eds be)]),(2,Ent.box [.int .i64 x.t,.int .i64 x.f,.int .i64 x.o])],3⟩) (fun k=>k≤be.length) (fun k=>be.length-k) 0 ?_ ?_ ?_
    ·simp(disch:=omega)only[go_sem,hz]
     rfl
    ·simp
    ·intro k hk
     have w3:=hsu k
     have w4:=hmo k hk
     simp(disch:=omega)only[go_sem,QEr]
     refine Q7 (fun e=>?_) (fun e=>?_)
     ·simp(disch:=omega)only[go_sem,e]
      refine QdE (fun g=>?_) (fun g=>?_)
      ·rw[g,Bool.false_or] at w3
       simp(disch:=omega)only[go_sem,g,e]
       exact⟨k+1,by simp [w3],by omega,by omega⟩
      ·have w4:=w4 g
       simp(disch:=omega)only[go_sem,g,e]
       exact⟨i+1,by simp,⟨by omega,by rw[he,hall,w2,w4];simp⟩,by omega⟩
     ·obtain rfl:k=be.length:=by omega
      simp(disch:=omega)only[go_sem,e]
      refine QdE (fun g=>?_) (fun g=>?_)
      ·simp(disch:=omega)only[go_sem,g]
       rw[he,hall,w2,g]
       simp
      ·simp(disch:=omega)only[go_sem,g]
       exact⟨i+1,by simp,⟨by omega,by rw[he,hall,w2,g];simp⟩,by omega⟩
  ·simp(disch:=omega)only[go_sem]
   rw[he,QB (by omega)]
   rfl
theorem QE9{γ:Type}(f:γ→Int→γ)(p:Nat→Bool):∀(n:Nat)(o:γ),(sel p n).foldl f o=(List.range n).foldl (fun o (k:Nat)=>if p k=true then f o k else o) o
 |0,o=>rfl
 |n+1,o=>by
  rw[QbG,List.range_succ,List.foldl_append,←QE9 f p n o]
  split<;>rename_i h<;>simp [h]
theorem QYo(n:Nat)(ih:∀m,m<n→QkE P F m)(a b:G)(ns es:List Int)(out:List Mo)(va:QX a=0)(vb:QX b=0)(h1:ns.length=a.n.length)(h2:es.length+n=a.e.length)(h3:out.length≤2001):
  W P (QkA F) (Done [.t 10] [] (.arr 2 (pts (aE a b ns n es out))) []) (init [gD a,gD b,.lst 1 (QR ns),.lst 1 (QR es),.arr 2 (pts out)]):=by
 refine QZ ?_
 obtain⟨a1,a2,_,a4⟩:=Q8 va
 obtain⟨b1,b2,_⟩:=Q8 vb
 cases n with
 |zero=>
  have hE:aE a b ns 0 es out=if 2000<out.length then out else out++[⟨ns,es⟩]:=rfl
  generalize aE a b ns 0 es out=q at*
  obtain⟨an,ae⟩:=a
  obtain⟨bn,be⟩:=b
  simp only[gD] at*
  simp(disch:=omega)only[go_sem]
  refine Q7 (fun c=>?_) (fun c=>?_)
  ·rw[if_pos (by omega)] at hE
   subst hE
   simp(disch:=omega)only[go_sem]
  ·rw[if_neg (by omega)] at hE
   subst hE
   simp(disch:=omega)only[go_sem]
   refine Q7 (fun d=>?_) (fun d=>?_)
   ·simp(disch:=omega)only[go_sem]
    try rfl
   ·omega
 |succ n=>
  have hx:=a4 _ (gt_mem (l:=a.e) (j:=es.length) (by omega) (by omega))
  have hx:=YZ hx
  generalize hstep:(fun (o:List Mo) (k:Nat)=>if Zl ns (gt a.e es.length) (gt b.e k)=true then aE a b ns n (es++[(k:Int)]) o else o)=step
  have hE:aE a b ns (n+1) es out=if 2000<out.length then out else (List.range b.e.length).foldl step out:=by
   rw[aE,Qb3,QE9,←hstep]
  have hsl:∀o i,o.length≤2001→(step o i).length≤2001:=fun o i ho=>by
   rw[←hstep];simp only;split
   ·exact Qky a b ns n _ o ho
   ·exact ho
  have hlen:∀i,((List.range i).foldl step out).length≤2001:=fun i=>QcT hsl _ _ h3
  have hsucc:∀i,(List.range (i+1)).foldl step out=step ((List.range i).foldl step out) i:=fun i=>by rw[List.range_succ,List.foldl_append];rfl
  have hrec:∀(i:Nat)(o:List Mo),o.length≤2001→FC P (F "Q") [gD a,gD b,.lst 1 (QR ns),.lst 1 (QR (es++[(i:Int)])),.arr 2 (pts o)] (.arr 2 (pts (aE a b ns n (es++[(i:Int)]) o))) []:=fun i o ho=>
   ih n (by omega) a b ns _ o va vb h1 (by simp;omega) ho
  have hst1:∀(i:Nat)(o:List Mo),Zl ns (gt a.e es.length) (gt b.e i)=true→step o i=aE a b ns n (es++[(i:Int)]) o:=fun i o h1=>by rw[←hstep];exact if_pos h1
  have hst2:∀(i:Nat)(o:List Mo),Zl ns (gt a.e es.length) (gt b.e i)=false→step o i=o:=fun i o h1=>by rw[←hstep];exact if_neg (fun h=>by rw[h] at h1;cases h1)
  generalize hacc:(fun i:Nat=>(List.range i).foldl step out)=acc
  have hacc':∀i,(List.range i).foldl step out=acc i:=fun i=>by rw[←hacc]
  have hacc0:acc 0=out:=by rw[←hacc];rfl
  simp only[hacc'] at hlen hE hsucc
  clear hstep hsl ih
  generalize aE a b ns (n+1) es out=q at*
  obtain⟨an,ae⟩:=a
  obtain⟨bn,be⟩:=b
  generalize hxx:gt ae (es.length:Int)=x at*
  simp only[gD] at hrec ⊢
  simp only at a1 a2 b1 b2 hx h1 h2 hE hst1 hst2
  simp only[Zl] at hst1 hst2
  simp(disch:=omega)only[go_sem]
  refine Q7 (fun c=>?_) (fun c=>?_)
  ·rw[if_pos (by omega)] at hE
   subst hE
   simp(disch:=omega)only[go_sem]
  ·rw[if_neg (by omega)] at hE
   subst hE
   simp(disch:=omega)only[go_sem]
   refine Q7 (fun d=>?_) (fun d=>?_)
   ·omega
   ·simp(disch:=omega)only[go_sem,hxx]
    refine Q5 (fun i:Nat=>⟨[(2,D.lst 1 (QR ns)),(3,D.lst 1 (QR es)),(4,D.sl 0 0 (acc i).length),(5,D.pt 1 0),(6,D.pt 2 0),(11,D.pt 3 0),(12,D.int IntKind.i64 i)],
     [(0,Ent.arr 2 (pts (acc i))),(1,Ent.box [D.lst 1 (QR an),D.lst 3 (eds ae)]),(2,Ent.box [D.lst 1 (QR bn),D.lst 3 (eds be)]),(3,Ent.box [.int .i64 x.t,.int .i64 x.f,.int .i64 x.o])],4⟩) (fun i=>i≤be.length) (fun i=>be.length-i) 0 ?_ ?_ ?_
    ·simp(disch:=omega)only[go_sem,hacc0]
     rfl
    ·simp
    ·intro i hi
     have hli:=hlen i
     have hsu:=hsucc i
     have hli2:=hlen (i+1)
     have hre:=hrec i (acc i) hli
     have s1:=hst1 i (acc i)
     have s2:=hst2 i (acc i)
     simp(disch:=omega)only[go_sem,QEI]
     refine Q7 (fun f=>?_) (fun f=>?_)
     ·simp(disch:=omega)only[go_sem]
      refine Qac (fun e=>?_) (fun e=>?_)
      ·rw[s1 e] at hsu
       rw[←hsu] at hre
       simp(disch:=omega)only[go_sem]
       refine JV hre ?_
       simp(disch:=omega)only[go_sem]
       exact⟨i+1,by simp,by omega,by omega⟩
      ·rw[s2 e] at hsu
       simp(disch:=omega)only[go_sem]
       exact⟨i+1,by simp [hsu],by omega,by omega⟩
     ·obtain rfl:i=be.length:=by omega
      simp(disch:=omega)only[go_sem]
theorem QYp(he:QkF P F)(hp:QkD P F)(n:Nat)(ih:∀m,m<n→QkG P F m)(a b:G)(ns:List Int)(out:List Mo)(va:QX a=0)(vb:QX b=0)(h1:ns.length+n=a.n.length)(h2:out.length≤2001):
  W P (QkB F) (Done [.t 8] [] (.arr 2 (pts (aN a b n ns out))) []) (init [gD a,gD b,.lst 1 (QR ns),.arr 2 (pts out)]):=by
 refine QZ ?_
 obtain⟨a1,a2,_,a4⟩:=Q8 va
 obtain⟨b1,b2,_⟩:=Q8 vb
 cases n with
 |zero=>
  have hE:aN a b 0 ns out=if 2000<out.length then out else aE a b ns a.e.length [] out:=rfl
  have re:=he a.e.length a b ns [] out va vb (by omega) (by simp) h2
  have re:=FC.nils (a:=[gD a,gD b,.lst 1 (QR ns),.nl 1,.arr 2 (pts out)]) re (by simp [QaZ,QR])
  generalize aN a b 0 ns out=q at*
  generalize aE a b ns a.e.length [] out=r at*
  obtain⟨an,ae⟩:=a
  obtain⟨bn,be⟩:=b
  simp only[gD] at re ⊢
  simp only at a1 a2 b1 b2 h1 h2
  simp(disch:=omega)only[go_sem]
  refine Q7 (fun c=>?_) (fun c=>?_)
  ·rw[if_pos (by omega)] at hE
   subst hE
   simp(disch:=omega)only[go_sem]
  ·rw[if_neg (by omega)] at hE
   subst hE
   simp(disch:=omega)only[go_sem]
   refine Q7 (fun d=>?_) (fun d=>?_)
   ·simp(disch:=omega)only[go_sem]
    refine JV re ?_
    simp(disch:=omega)only[go_sem]
   ·omega
 |succ n=>
  generalize hstep:(fun (o:List Mo) (i:Nat)=>if gt b.n i=gt a.n ns.length∧QaG a b (ns++[(i:Int)])=true then aN a b n (ns++[(i:Int)]) o else o)=step
  have hE:aN a b (n+1) ns out=if 2000<out.length then out else (List.range b.n.length).foldl step out:=by rw[←hstep];rfl
  have hsl:∀o i,o.length≤2001→(step o i).length≤2001:=fun o i ho=>by
   rw[←hstep];simp only;split
   ·exact QeM a b n _ o ho
   ·exact ho
  have hlen:∀i,((List.range i).foldl step out).length≤2001:=fun i=>QcT hsl _ _ h2
  have hsucc:∀i,(List.range (i+1)).foldl step out=step ((List.range i).foldl step out) i:=fun i=>by rw[List.range_succ,List.foldl_append];rfl
  have hposs:∀i:Nat,FC P (F "aM") [gD a,gD b,.lst 1 (QR (ns++[(i:Int)]))] (.bool (QaG a b (ns++[(i:Int)]))) []:=fun i=>hp a b _ va vb (by simp;omega) (by simp)
  have hrec:∀(i:Nat)(o:List Mo),o.length≤2001→FC P (F "z") [gD a,gD b,.lst 1 (QR (ns++[(i:Int)])),.arr 2 (pts o)] (.arr 2 (pts (aN a b n (ns++[(i:Int)]) o))) []:=fun i o ho=>ih n (by omega) a b _ o va vb (by simp;omega) ho
  have hst1:∀(i:Nat)(o:List Mo),gt b.n i=gt a.n ns.length→QaG a b (ns++[(i:Int)])=true→step o i=aN a b n (ns++[(i:Int)]) o:=fun i o h1 h2=>by rw[←hstep];exact if_pos ⟨h1,h2⟩
  have hst2:∀(i:Nat)(o:List Mo),gt b.n i=gt a.n ns.length→QaG a b (ns++[(i:Int)])=false→step o i=o:=fun i o h1 h2=>by rw[←hstep];exact if_neg (fun h=>by rw[h.2] at h2;cases h2)
  have hst3:∀(i:Nat)(o:List Mo),gt b.n i≠gt a.n ns.length→step o i=o:=fun i o h1=>by rw[←hstep];exact if_neg (fun h=>h1 h.1)
  generalize hacc:(fun i:Nat=>(List.range i).foldl step out)=acc
  have hacc':∀i,(List.range i).foldl step out=acc i:=fun i=>by rw[←hacc]
  have hacc0:acc 0=out:=by rw[←hacc];rfl
  simp only[hacc'] at hlen hE hsucc
  clear hstep hsl ih
  generalize aN a b (n+1) ns out=q at*
  obtain⟨an,ae⟩:=a
  obtain⟨bn,be⟩:=b
  simp only[gD] at hposs hrec ⊢
  simp only at a1 a2 b1 b2 h1 h2 hE hst1 hst2 hst3
  simp(disch:=omega)only[go_sem]
  refine Q7 (fun c=>?_) (fun c=>?_)
  ·rw[if_pos (by omega)] at hE
   subst hE
   simp(disch:=omega)only[go_sem]
  ·rw[if_neg (by omega)] at hE
   subst hE
   simp(disch:=omega)only[go_sem]
   refine Q7 (fun d=>?_) (fun d=>?_)
   ·omega
   ·simp(disch:=omega)only[go_sem]
    refine Q5 (fun i:Nat=>⟨[(2,D.lst 1 (QR ns)),(3,D.sl 0 0 (acc i).length),(4,D.pt 1 0),(5,D.pt 2 0),(9,D.int IntKind.i64 i)],
     [(0,Ent.arr 2 (pts (acc i))),(1,Ent.box [D.lst 1 (QR an),D.lst 3 (eds ae)]),(2,Ent.box [D.lst 1 (QR bn),D.lst 3 (eds be)])],3⟩) (fun i=>i≤bn.length) (fun i=>bn.length-i) 0 ?_ ?_ ?_
    ·simp(disch:=omega)only[go_sem,hacc0]
     rfl
    ·simp
    ·intro i hi
     have hli:=hlen i
     have hsu:=hsucc i
     have hli2:=hlen (i+1)
     have hre:=hrec i (acc i) hli
     have hpo:=hposs i
     simp(disch:=omega)only[go_sem,QEW]
     refine Q7 (fun f=>?_) (fun f=>?_)
     ·simp(disch:=omega)only[go_sem]
      refine XX (fun e=>?_) (fun e=>?_)
      ·rw[hst3 i _ e] at hsu
       simp(disch:=omega)only[go_sem]
       exact⟨i+1,by simp [hsu],by omega,by omega⟩
      ·simp(disch:=omega)only[go_sem]
       refine QT hpo ?_
       simp(disch:=omega)only[go_sem]
       refine Qac (fun z=>?_) (fun z=>?_)
       ·rw[hst1 i _ e z] at hsu
        rw[←hsu] at hre
        simp(disch:=omega)only[go_sem]
        refine JV hre ?_
        simp(disch:=omega)only[go_sem]
        exact⟨i+1,by simp,by omega,by omega⟩
       ·rw[hst2 i _ e z] at hsu
        simp(disch:=omega)only[go_sem]
        exact⟨i+1,by simp [hsu],by omega,by omega⟩
     ·obtain rfl:i=bn.length:=by omega
      simp(disch:=omega)only[go_sem]
theorem QYq(hv:Qa3 P F)(hn:QkH P F)(a b:G):W P (QkC F) (Done [.t 4,.t 5] [] (.tup [.arr 2 (pts (Jy a b)),.int .i64 (QaH a b)]) []) (init [gD a,gD b]):=by
 refine QZ ?_
 have rva:=hv a
 have rvb:=hv b
 have hr:QX a=0→QX b=0→FC P (F "z") [gD a,gD b,.lst 1 (QR []),.arr 2 (pts [])] (.arr 2 (pts (aN a b a.n.length [] []))) []:=fun h1 h2=>hn a.n.length a b [] [] h1 h2 (by simp) (by simp)
 have hl:=QeM a b a.n.length [] [] (by simp)
 have hE:QaH a b=if QX a≠0 then QX a else if QX b≠0 then QX b else if 2000<(aN a b a.n.length [] []).length then 3 else 0:=rfl
 have hM:Jy a b=if QaH a b=0 then aN a b a.n.length [] [] else []:=rfl
 generalize aN a b a.n.length [] []=l at*
 generalize QaH a b=er at*
 generalize Jy a b=m at*
 generalize QX a=va at*
 generalize QX b=vb at*
 simp only[gD] at*
 simp(disch:=omega)only[go_sem]
 refine QT rva ?_
 simp(disch:=omega)only[go_sem]
 refine XX (fun c=>?_) (fun c=>?_)
 ·rw[if_pos c] at hE
  rw[if_neg (by omega)] at hM
  subst hE hM
  simp(disch:=omega)only[go_sem]
  rfl
 ·subst c
  rw[if_neg (by simp)] at hE
  simp(disch:=omega)only[go_sem]
  refine QT rvb ?_
  simp(disch:=omega)only[go_sem]
  refine XX (fun c=>?_) (fun c=>?_)
  ·rw[if_pos c] at hE
   rw[if_neg (by omega)] at hM
   subst hE hM
   simp(disch:=omega)only[go_sem]
   rfl
  ·subst c
   rw[if_neg (by simp)] at hE
   have hr:=FC.nils (a:=[.agg [.lst 1 (QR a.n),.lst 3 (eds a.e)],.agg [.lst 1 (QR b.n),.lst 3 (eds b.e)],.nl 0,.nl 0]) (hr rfl rfl) (by simp [QaZ,QR,pts])
   simp only[pts,List.map_nil] at hr
   have hpl:(List.map mD l).length=l.length:=by simp
   simp(disch:=omega)only[go_sem]
   refine JV hr ?_
   simp(disch:=omega)only[go_sem,hpl]
   refine Q7 (fun c=>?_) (fun c=>?_)
   ·rw[if_pos (by omega)] at hE
    rw[if_neg (by omega)] at hM
    subst hE hM
    simp(disch:=omega)only[go_sem]
    rfl
   ·rw[if_neg (by omega)] at hE
    rw[if_pos (by omega)] at hM
    subst hE hM
    simp(disch:=omega)only[go_sem,hpl]
    rfl
theorem QYr{l:List Mo}{i:Nat}(h:i<l.length):(pts l)[i]?=some (.agg [.lst 1 (QR (gt l i).n),.lst 1 (QR (gt l i).e)]):=by
 unfold pts
 rw[List.getElem?_map,Qq h,Xc h]
 rfl
end
theorem QYs(l m:List Int):u8s l++u8s m=u8s (l++m):=by simp [u8s]
attribute [go_sem] QYs
section
variable (P:Program) (F:String→Nat)
end
section
variable {P:Program} {F:String→Nat} {α:Type}
end
section
def Cs.sw(s:Cs):Cs:=⟨s.c,s.b,s.d,s.g,s.f⟩
end
def Sep(na nb nc:Nat)(f g h k:List Int):Prop:=∀φ ψ:Int→Int,(∀i:Nat,i<na→φ (gt f i)=ψ (gt g i))→
 (∀i j:Nat,i<nb→j<nb→gt h i=gt h j→φ i=φ j)∧(∀i j:Nat,i<nb→j<nc→gt h i=gt k j→φ i=ψ j)∧(∀i j:Nat,i<nc→j<nc→gt k i=gt k j→ψ i=ψ j)
def Cov(nb nc nd:Nat)(h k:List Int):Prop:=∀j:Nat,j<nd→(∃i:Nat,i<nb∧gt h i=j)∨∃i:Nat,i<nc∧gt k i=j
structure Psh(s:Sq):Prop where
 q:QOk s
 c:QY s.f s.h=QY s.g s.k
 sn:Sep s.a.n.length s.b.n.length s.c.n.length s.f.n s.g.n s.h.n s.k.n
 se:Sep s.a.e.length s.b.e.length s.c.e.length s.f.e s.g.e s.h.e s.k.e
 cn:Cov s.b.n.length s.c.n.length s.d.n.length s.h.n s.k.n
 ce:Cov s.b.e.length s.c.e.length s.d.e.length s.h.e s.k.e
section
variable {s:Sp}
theorem QkJ{i:Nat}(hi:i<s.b.n.length):gt (poP s).n i=gt (poQ s).n i:=by
 simp only[poP,QY,idM]
 rw[Xi (by rw[Xh];exact hi),XN hi]
theorem QkK{i:Nat}(hi:i<s.b.e.length):gt (poP s).e i=gt (poQ s).e i:=by
 simp only[poP,QY,idM]
 rw[Xi (by rw[Xh];exact hi),XN hi]
theorem QkL{i:Nat}(hi:i<s.c.n.length):gt (poK s).n i=gt (poQ s).n ((s.b.n.length+i:Nat):Int):=by
 simp only[poK,QY,inR]
 rw[Xi (by rw[Xh];exact hi),Y4 hi,show (s.b.n.length:Int)+i=((s.b.n.length+i:Nat):Int) by omega]
theorem QkM{i:Nat}(hi:i<s.c.e.length):gt (poK s).e i=gt (poQ s).e ((s.b.e.length+i:Nat):Int):=by
 simp only[poK,QY,inR]
 rw[Xi (by rw[Xh];exact hi),Y4 hi,show (s.b.e.length:Int)+i=((s.b.e.length+i:Nat):Int) by omega]
theorem SOk.sepN(hs:SOk s):Sep s.a.n.length s.b.n.length s.c.n.length s.f.n s.g.n (poP s).n (poK s).n:=by
 intro φ ψ he
 have hl:=(JH s.b s.c).1
 obtain⟨θ,t1,t2⟩:∃θ:Int→Int,(∀i:Nat,i<s.b.n.length→θ i=φ i)∧∀i:Nat,θ ((s.b.n.length+i:Nat):Int)=ψ i:=
  ⟨fun z=>if z<s.b.n.length then φ z else ψ (z-s.b.n.length),fun i hi=>if_pos (by omega),fun i=>by
   simp only
   rw[if_neg (by omega)]
   congr 1
   omega⟩
 have key:∀u v:Nat,u<(unG s.b s.c).n.length→v<(unG s.b s.c).n.length→gt (poQ s).n u=gt (poQ s).n v→θ u=θ v:=fun u v hu hv e=>by
  have h1:=((J3 hs.uF hs.uH).iffN hu hv).1 e
  have e2:∀i:Nat,i<s.a.n.length→θ (gt (poF s).n i)=θ (gt (poH s).n i):=fun i hi=>by
   obtain⟨x,hx,ex⟩:=gtI (hs.f.nd i hi).1
   obtain⟨y,hy,ey⟩:=gtI (hs.g.nd i hi).1
   simp only[poF,poH,QY,idM,inR]
   rw[Xi (by rw[hs.f.ln];exact hi),Xi (by rw[hs.g.ln];exact hi),ex,ey,XN hx,Y4 hy,show (s.b.n.length:Int)+y=((s.b.n.length+y:Nat):Int) by omega,t1 x hx,t2 y,←ex,←ey]
   exact he i hi
  have h2:=Qd9 hs.uF hs.uH e2 hu
  have h3:=Qd9 hs.uF hs.uH e2 hv
  rw[←h2,←h3,h1]
 refine⟨fun i j hi hj e=>?_,fun i j hi hj e=>?_,fun i j hi hj e=>?_⟩
 ·rw[QkJ hi,QkJ hj] at e
  rw[←t1 i hi,←t1 j hj]
  exact key i j (by omega) (by omega) e
 ·rw[QkJ hi,QkL hj] at e
  rw[←t1 i hi,←t2 j]
  exact key i _ (by omega) (by omega) e
 ·rw[QkL hi,QkL hj] at e
  rw[←t2 i,←t2 j]
  exact key _ _ (by omega) (by omega) e
theorem SOk.sepE(hs:SOk s):Sep s.a.e.length s.b.e.length s.c.e.length s.f.e s.g.e (poP s).e (poK s).e:=by
 intro φ ψ he
 have hl:=(JH s.b s.c).2
 obtain⟨θ,t1,t2⟩:∃θ:Int→Int,(∀i:Nat,i<s.b.e.length→θ i=φ i)∧∀i:Nat,θ ((s.b.e.length+i:Nat):Int)=ψ i:=
  ⟨fun z=>if z<s.b.e.length then φ z else ψ (z-s.b.e.length),fun i hi=>if_pos (by omega),fun i=>by
   simp only
   rw[if_neg (by omega)]
   congr 1
   omega⟩
 have key:∀u v:Nat,u<(unG s.b s.c).e.length→v<(unG s.b s.c).e.length→gt (poQ s).e u=gt (poQ s).e v→θ u=θ v:=fun u v hu hv e=>by
  have h1:=((J3 hs.uF hs.uH).iffE hu hv).1 e
  have e2:∀i:Nat,i<s.a.e.length→θ (gt (poF s).e i)=θ (gt (poH s).e i):=fun i hi=>by
   obtain⟨x,hx,ex⟩:=gtI (hs.f.ed i hi).1
   obtain⟨y,hy,ey⟩:=gtI (hs.g.ed i hi).1
   simp only[poF,poH,QY,idM,inR]
   rw[Xi (by rw[hs.f.le];exact hi),Xi (by rw[hs.g.le];exact hi),ex,ey,XN hx,Y4 hy,show (s.b.e.length:Int)+y=((s.b.e.length+y:Nat):Int) by omega,t1 x hx,t2 y,←ex,←ey]
   exact he i hi
  have h2:=Qea hs.uF hs.uH e2 hu
  have h3:=Qea hs.uF hs.uH e2 hv
  rw[←h2,←h3,h1]
 refine⟨fun i j hi hj e=>?_,fun i j hi hj e=>?_,fun i j hi hj e=>?_⟩
 ·rw[QkK hi,QkK hj] at e
  rw[←t1 i hi,←t1 j hj]
  exact key i j (by omega) (by omega) e
 ·rw[QkK hi,QkM hj] at e
  rw[←t1 i hi,←t2 j]
  exact key i _ (by omega) (by omega) e
 ·rw[QkM hi,QkM hj] at e
  rw[←t2 i,←t2 j]
  exact key _ _ (by omega) (by omega) e
end
theorem Psh.of{s:Sq}(q:QOk s)(c:QY s.f s.h=QY s.g s.k)(he:Yt s.dn=0)(h:Qin s.dn s.d s.h s.k=true):Psh s:=by
 have hs:=poErr_ok.1 he
 obtain⟨u,hu,u1,u2⟩:=hs.med q.h q.k c
 have hc:=hs.chk_grown hu
 rw[u1,u2] at hc
 rw[h] at hc
 obtain⟨c1,c2⟩:=Qi _ _▸hc.symm
 obtain⟨i1,i2⟩:=(Qko hu).1 c1
 obtain⟨v1,v2⟩:=(QX9 hu).1 c2
 have l1:=hs.p.ln
 have l2:=hs.k.ln
 have l3:=hs.p.le
 have l4:=hs.k.le
 have l5:=hu.ln
 have l6:=hu.le
 have pn:∀i:Nat,i<s.b.n.length→∃t:Nat,t<u.n.length∧gt (poP s.dn).n i=t∧gt s.h.n i=gt u.n t:=fun i hi=>by
  obtain⟨t,ht,et⟩:=gtI (hs.p.nd i hi).1
  refine⟨t,by omega,et,?_⟩
  rw[←u1]
  simp only[QY]
  rw[Xi (by rw[l1];exact hi),et]
 have kn:∀i:Nat,i<s.c.n.length→∃t:Nat,t<u.n.length∧gt (poK s.dn).n i=t∧gt s.k.n i=gt u.n t:=fun i hi=>by
  obtain⟨t,ht,et⟩:=gtI (hs.k.nd i hi).1
  refine⟨t,by omega,et,?_⟩
  rw[←u2]
  simp only[QY]
  rw[Xi (by rw[l2];exact hi),et]
 have pe:∀i:Nat,i<s.b.e.length→∃t:Nat,t<u.e.length∧gt (poP s.dn).e i=t∧gt s.h.e i=gt u.e t:=fun i hi=>by
  obtain⟨t,ht,et⟩:=gtI (hs.p.ed i hi).1
  refine⟨t,by omega,et,?_⟩
  rw[←u1]
  simp only[QY]
  rw[Xi (by rw[l3];exact hi),et]
 have ke:∀i:Nat,i<s.c.e.length→∃t:Nat,t<u.e.length∧gt (poK s.dn).e i=t∧gt s.k.e i=gt u.e t:=fun i hi=>by
  obtain⟨t,ht,et⟩:=gtI (hs.k.ed i hi).1
  refine⟨t,by omega,et,?_⟩
  rw[←u2]
  simp only[QY]
  rw[Xi (by rw[l4];exact hi),et]
 refine⟨q,c,fun φ ψ e=>?_,fun φ ψ e=>?_,fun j hj=>?_,fun j hj=>?_⟩
 ·obtain⟨a1,a2,a3⟩:=hs.sepN φ ψ e
  refine⟨fun i j hi hj e=>a1 i j hi hj ?_,fun i j hi hj e=>a2 i j hi hj ?_,fun i j hi hj e=>a3 i j hi hj ?_⟩
  ·obtain⟨t,t1,t2,t3⟩:=pn i hi
   obtain⟨r,r1,r2,r3⟩:=pn j hj
   rw[t2,r2,Y0 i1 t1 r1 (by rw[←t3,←r3,e])]
  ·obtain⟨t,t1,t2,t3⟩:=pn i hi
   obtain⟨r,r1,r2,r3⟩:=kn j hj
   rw[t2,r2,Y0 i1 t1 r1 (by rw[←t3,←r3,e])]
  ·obtain⟨t,t1,t2,t3⟩:=kn i hi
   obtain⟨r,r1,r2,r3⟩:=kn j hj
   rw[t2,r2,Y0 i1 t1 r1 (by rw[←t3,←r3,e])]
 ·obtain⟨a1,a2,a3⟩:=hs.sepE φ ψ e
  refine⟨fun i j hi hj e=>a1 i j hi hj ?_,fun i j hi hj e=>a2 i j hi hj ?_,fun i j hi hj e=>a3 i j hi hj ?_⟩
  ·obtain⟨t,t1,t2,t3⟩:=pe i hi
   obtain⟨r,r1,r2,r3⟩:=pe j hj
   rw[t2,r2,Y0 i2 t1 r1 (by rw[←t3,←r3,e])]
  ·obtain⟨t,t1,t2,t3⟩:=pe i hi
   obtain⟨r,r1,r2,r3⟩:=ke j hj
   rw[t2,r2,Y0 i2 t1 r1 (by rw[←t3,←r3,e])]
  ·obtain⟨t,t1,t2,t3⟩:=ke i hi
   obtain⟨r,r1,r2,r3⟩:=ke j hj
   rw[t2,r2,Y0 i2 t1 r1 (by rw[←t3,←r3,e])]
 ·obtain⟨t,t1,t2⟩:=covers_ix.1 v1 j hj
  rcases hs.surN (j:=t) (by omega) with⟨i,h1,h2⟩|⟨i,h1,h2⟩
  ·obtain⟨r,_,r2,r3⟩:=pn i h1
   refine .inl ⟨i,h1,?_⟩
   rw[r3,←r2,h2,t2]
  ·obtain⟨r,_,r2,r3⟩:=kn i h1
   refine .inr ⟨i,h1,?_⟩
   rw[r3,←r2,h2,t2]
 ·obtain⟨t,t1,t2⟩:=covers_ix.1 v2 j hj
  rcases hs.surE (j:=t) (by omega) with⟨i,h1,h2⟩|⟨i,h1,h2⟩
  ·obtain⟨r,_,r2,r3⟩:=pe i h1
   refine .inl ⟨i,h1,?_⟩
   rw[r3,←r2,h2,t2]
  ·obtain⟨r,_,r2,r3⟩:=ke i h1
   refine .inr ⟨i,h1,?_⟩
   rw[r3,←r2,h2,t2]
section
variable {na nb nc nd:Nat} {f g h k:List Int}
theorem Sep.ext(hS:Sep na nb nc f g h k){φ ψ:Int→Int}(he:∀i:Nat,i<na→φ (gt f i)=ψ (gt g i)):∃χ:Int→Int,(∀x:Nat,x<nb→χ (gt h x)=φ x)∧∀y:Nat,y<nc→χ (gt k y)=ψ y:=by
 classical
 obtain⟨a1,a2,a3⟩:=hS φ ψ he
 refine⟨fun d=>if H:∃x:Nat,x<nb∧gt h x=d then φ (Classical.choose H:Nat) else if H:∃y:Nat,y<nc∧gt k y=d then ψ (Classical.choose H:Nat) else 0,fun x hx=>?_,fun y hy=>?_⟩
 ·have H:∃z:Nat,z<nb∧gt h z=gt h x:=⟨x,hx,rfl⟩
  simp only
  rw[dif_pos H]
  obtain⟨c1,c2⟩:=Classical.choose_spec H
  exact a1 _ _ c1 hx c2
 ·simp only
  by_cases H:∃z:Nat,z<nb∧gt h z=gt k y
  ·rw[dif_pos H]
   obtain⟨c1,c2⟩:=Classical.choose_spec H
   exact a2 _ _ c1 hy c2
  ·have H2:∃z:Nat,z<nc∧gt k z=gt k y:=⟨y,hy,rfl⟩
   rw[dif_neg H,dif_pos H2]
   obtain⟨c1,c2⟩:=Classical.choose_spec H2
   exact a3 _ _ c1 hy c2
theorem Sep.of(H:∀φ ψ:Int→Int,(∀i:Nat,i<na→φ (gt f i)=ψ (gt g i))→∃χ:Int→Int,(∀x:Nat,x<nb→χ (gt h x)=φ x)∧∀y:Nat,y<nc→χ (gt k y)=ψ y):Sep na nb nc f g h k:=by
 intro φ ψ he
 obtain⟨χ,c1,c2⟩:=H φ ψ he
 refine⟨fun i j hi hj e=>?_,fun i j hi hj e=>?_,fun i j hi hj e=>?_⟩
 ·rw[←c1 i hi,←c1 j hj,e]
 ·rw[←c1 i hi,←c2 j hj,e]
 ·rw[←c2 i hi,←c2 j hj,e]
theorem Sep.monoF(hS:Sep na nb nc f g h k)(hf:f.Nodup)(lf:f.length=na){x y:Nat}(hx:x<nb)(hy:y<nc)(e:gt h x=gt k y):∃i:Nat,i<na∧gt f i=x∧gt g i=y:=by
 obtain⟨_,a2,_⟩:=hS (fun z=>if idx (fun y=>decide (z=y)) f 0<0 then -1 else gt g (idx (fun y=>decide (z=y)) f 0)) (fun z=>z) (fun i hi=>by
  rw[QcS hf (by omega),if_neg (by omega)])
 have:=a2 x y hx hy e
 by_cases c:(x:Int)∈f
 ·obtain⟨i,hi,ei⟩:=X2 c
  rw[←ei,QcS hf hi,if_neg (by omega)] at this
  exact⟨i,by omega,ei,this⟩
 ·rw[if_pos (idx_neg.2 c)] at this
  omega
theorem Sep.sw(hS:Sep na nb nc f g h k):Sep na nc nb g f k h:=by
 intro φ ψ he
 obtain⟨a1,a2,a3⟩:=hS ψ φ fun i hi=>(he i hi).symm
 exact⟨a3,fun i j hi hj e=>(a2 j i hj hi e.symm).symm,a1⟩
end
section
variable {s t:Sq}
end
section
variable {na nb nc nd nb' nd':Nat} {f g h k f' h' k':List Int}
end
section
variable {s t:Sq} (e1:t.a=s.b) (e2:t.c=s.d) (e3:t.g=s.h)
include e1 e2 e3
end
def toL(im kn pl:List Int):List Int:=kn.map fun n=>idx (fun y=>decide (gt im n=y)) pl 0
def Jz(x:Cx)(p:Mo):Mo:=⟨toL x.m.n x.k.n p.n,toL x.m.e x.k.e p.e⟩
section
variable (P:Program) (F:String→Nat)
end
section
theorem QcU(im kn pl:List Int):(toL im kn pl).length=kn.length:=by simp [toL]
theorem QYt{im kn pl:List Int}{a:Nat}(h:a<kn.length):gt (toL im kn pl) a=idx (fun y=>decide (gt im (gt kn a)=y)) pl 0:=by
 rw[Xc (by rw[QcU];exact h),Xc h]
 simp [toL]
theorem QFa{im kn pl:List Int}{i:Nat}(h:i<kn.length):toL im (kn.take (i+1)) pl=toL im (kn.take i) pl++[idx (fun y=>decide (gt im (gt kn i)=y)) pl 0]:=by
 rw[Yk h];simp [toL]
theorem QkN{x:Int}{n:Nat}(h:0≤x∧x<n):∃k:Nat,k<n∧x=k:=⟨x.toNat,by omega,by omega⟩
theorem QkO(n:Nat)(gone:List Int):(X4 n gone).Pairwise (·<·):=QaD _ _
theorem rest_mem{n j:Nat}{gone:List Int}:(j:Int)∈X4 n gone↔j<n∧¬(j:Int)∈gone:=by
 rw[X4,sel_memN];simp
theorem QYu{im kn:List Int}{n:Nat}(hid:idL im kn=[])(hb:∀i:Nat,i<im.length→0≤gt im i∧gt im i<n)(hk:AscL kn im.length){i:Nat}(hi:i<im.length)(h:gt im i∈X4 n (Xm im kn)):(i:Int)∈kn:=by
 obtain⟨j,h2,h3⟩:=QkN (hb i hi)
 rw[h3] at h
 refine Decidable.byContradiction fun hn=>(rest_mem.1 h).2 ?_
 exact goneL_mem.2 ⟨i,hi,hn,h3⟩
section
variable {im kn:List Int} {n:Nat} (hid:idL im kn=[]) (hb:∀i:Nat,i<im.length→0≤gt im i∧gt im i<n) (hk:AscL kn im.length)
include hid hb hk
theorem QkP{i:Nat}(hi:(i:Int)∈kn):gt im i∈X4 n (Xm im kn):=by
 have h1:=hk.b _ hi
 obtain⟨j,h2,h3⟩:=QkN (hb i (by omega))
 rw[h3]
 refine rest_mem.2 ⟨h2,fun hg=>?_⟩
 obtain⟨a,a1,a2,a3⟩:=goneL_mem.1 hg
 rcases Nat.lt_trichotomy a i with c|c|c
 ·exact a2 (QDu hid c (by omega) (by rw[a3,h3])).1
 ·subst c;exact a2 hi
 ·exact a2 (QDu hid c a1 (by rw[a3,h3])).2
theorem Qa9{a:Nat}(ha:a<kn.length):∃t:Nat,t<(X4 n (Xm im kn)).length∧gt (toL im kn (X4 n (Xm im kn))) a=t∧(Y5 (X4 n (Xm im kn)) (gt im (gt kn a)):Int)=t∧gt (X4 n (Xm im kn)) t=gt im (gt kn a):=by
 have hm:=gt_mem (l:=kn) (j:=(a:Int)) (by omega) (by omega)
 obtain⟨i,h1,h2⟩:=QkN (hk.b _ hm)
 rw[h2] at hm
 have hr:=QkP hid hb hk hm
 obtain⟨t,t1,t2,t3⟩:=QeI (QkO _ _) hr
 refine⟨t,t1,?_,by rw[h2,t2],by rw[h2,t3]⟩
 rw[QYt ha,h2,QDT (QkO _ _) hr,t2]
end
def cxP(x:Cx):Mo:=⟨X4 x.g.n.length (Xm x.m.n x.k.n),X4 x.g.e.length (Xm x.m.e x.k.e)⟩
theorem QeN{x:Cx}(he:cxE x=0)(z1:idL x.m.n x.k.n=[])(z2:idL x.m.e x.k.e=[])(z3:Yu x=[]):PK x.g (cxP x):=by
 obtain⟨hm,hk⟩:=QaF he
 have bn:∀i:Nat,i<x.m.n.length→0≤gt x.m.n i∧gt x.m.n i<x.g.n.length:=fun i hi=>(hm.nd i (by rw[←hm.ln];exact hi)).1
 have be:∀i:Nat,i<x.m.e.length→0≤gt x.m.e i∧gt x.m.e i<x.g.e.length:=fun i hi=>(hm.ed i (by rw[←hm.le];exact hi)).1
 have kn:AscL x.k.n x.m.n.length:=by rw[hm.ln];exact hk.n
 refine⟨hm.vb,Qeq _ _,Qeq _ _,fun e hx=>?_⟩
 obtain⟨j,hj,_,rfl⟩:=sel_mem.1 hx
 have hng:=(rest_mem.1 hx).2
 obtain⟨_,f1,f2⟩:=Zt hm.vb (i:=(j:Int)) (by omega)
 by_cases c:(j:Int)∈x.m.e
 ·obtain⟨i,i1,i2⟩:=X2 c
  have hik:(i:Int)∈x.k.e:=Decidable.byContradiction fun hn=>hng (goneL_mem.2 ⟨i,i1,hn,i2⟩)
  obtain⟨_,_,q1,q2⟩:=hm.ed i (by rw[←hm.le];exact i1)
  rw[i2] at q1 q2
  have hd:=hk.d _ hik
  obtain⟨a,a1,a2⟩:=gtI (hk.n.b _ hd.1)
  obtain⟨b,b1,b2⟩:=gtI (hk.n.b _ hd.2)
  have r1:=QkP z1 bn kn (i:=a) (by rw[←a2];exact hd.1)
  have r2:=QkP z1 bn kn (i:=b) (by rw[←b2];exact hd.2)
  rw[←q1,←q2,a2,b2]
  exact⟨r1,r2⟩
 ·obtain⟨a,a1,a2⟩:=gtI f1
  obtain⟨b,b1,b2⟩:=gtI f2
  have hno:¬((gt x.g.e j).f∈Xm x.m.n x.k.n∨(gt x.g.e j).o∈Xm x.m.n x.k.n):=fun h=>by
   have:(j:Int)∈Yu x:=danL_mem.2 ⟨j,hj,danE_iff.2 ⟨c,h⟩,rfl⟩
   rw[z3] at this
   simp at this
  rw[a2,b2] at hno ⊢
  exact⟨rest_mem.2 ⟨a1,fun h=>hno (.inl h)⟩,rest_mem.2 ⟨b1,fun h=>hno (.inr h)⟩⟩
section
variable {x:Cx} (he:cxE x=0) (z1:idL x.m.n x.k.n=[]) (z2:idL x.m.e x.k.e=[]) (z3:Yu x=[])
include he z1 z2 z3
theorem QYv:MOk (ptG x.l x.k) (ptG x.g (cxP x)) (Jz x (cxP x)):=by
 obtain⟨hm,hk⟩:=QaF he
 have hp:=QeN he z1 z2 z3
 have bn:∀i:Nat,i<x.m.n.length→0≤gt x.m.n i∧gt x.m.n i<x.g.n.length:=fun i hi=>(hm.nd i (by rw[←hm.ln];exact hi)).1
 have be:∀i:Nat,i<x.m.e.length→0≤gt x.m.e i∧gt x.m.e i<x.g.e.length:=fun i hi=>(hm.ed i (by rw[←hm.le];exact hi)).1
 have kn:AscL x.k.n x.m.n.length:=by rw[hm.ln];exact hk.n
 have ke:AscL x.k.e x.m.e.length:=by rw[hm.le];exact hk.e
 have la:(ptG x.l x.k).n.length=x.k.n.length:=Xp _ _
 have lb:(ptG x.l x.k).e.length=x.k.e.length:=Je _ _ _
 have lc:(ptG x.g (cxP x)).n.length=(cxP x).n.length:=Xp _ _
 have ld:(ptG x.g (cxP x)).e.length=(cxP x).e.length:=Je _ _ _
 refine⟨(Qks hk).va,(Qks hp).va,by rw[la];exact QcU _ _ _,by rw[lb];exact QcU _ _ _,fun i hi=>?_,fun i hi=>?_⟩
 ·rw[la] at hi
  obtain⟨t,t1,t2,t3,t4⟩:=Qa9 z1 bn kn hi
  obtain⟨b,b1,b2⟩:=gtI (hk.n.b _ (gt_mem (l:=x.k.n) (j:=(i:Int)) (by omega) (by omega)))
  have hn:=(hm.nd b b1).2
  have e1:gt (Jz x (cxP x)).n i=t:=t2
  rw[e1,lc]
  refine⟨⟨by omega,by have:t<(cxP x).n.length:=t1;omega⟩,?_⟩
  simp only[ptG]
  have e2:gt (cxP x).n t=gt x.m.n (gt x.k.n i):=t4
  rw[Xi (show t<(cxP x).n.length from t1),Xi hi,e2,b2,hn]
 ·rw[lb] at hi
  obtain⟨t,t1,t2,t3,t4⟩:=Qa9 z2 be ke hi
  have hme:=gt_mem (l:=x.k.e) (j:=(i:Int)) (by omega) (by omega)
  obtain⟨b,b1,b2⟩:=gtI (hk.e.b _ hme)
  obtain⟨_,h2,h3,h4⟩:=hm.ed b b1
  have hd:=hk.d _ hme
  rw[b2] at hd
  have e1:gt (Jz x (cxP x)).e i=t:=t2
  have e2:gt (cxP x).e t=gt x.m.e (gt x.k.e i):=t4
  rw[e1,ld]
  refine⟨⟨by omega,by have:t<(cxP x).e.length:=t1;omega⟩,?_⟩
  obtain⟨a,a1,a2,a3⟩:=QeI hk.n.p hd.1
  obtain⟨o,o1,o2,o3⟩:=QeI hk.n.p hd.2
  obtain⟨ta,_,ta2,ta3,_⟩:=Qa9 z1 bn kn a1
  obtain⟨tb,_,tb2,tb3,_⟩:=Qa9 z1 bn kn o1
  have ga:gt (Jz x (cxP x)).n a=ta:=ta2
  have gb:gt (Jz x (cxP x)).n o=tb:=tb2
  have ca:(Y5 (cxP x).n (gt x.m.n (gt x.k.n a)):Int)=ta:=ta3
  have cb:(Y5 (cxP x).n (gt x.m.n (gt x.k.n o)):Int)=tb:=tb3
  simp only[ptG]
  rw[QeJ (show t<(cxP x).e.length from t1),QeJ hi,e2,b2]
  simp only
  rw[a2,o2,ga,gb,←h3,←h4,←ca,←cb,a3,o3]
  exact⟨h2,rfl,rfl⟩
end
section
variable {P:Program} {F:String→Nat} {α:Type}
end
end
section
theorem Sep.injG{na nb nc:Nat}{f g h k:List Int}(hS:Sep na nb nc f g h k)(hg:g.Nodup)(lg:g.length=na){x y:Nat}(hx:x<nb)(hy:y<nb)(e:gt h x=gt h y):x=y:=by
 obtain⟨a1,_,_⟩:=hS (fun z=>z) (fun z=>if idx (fun y=>decide (z=y)) g 0<0 then -1 else gt f (idx (fun y=>decide (z=y)) g 0)) (fun i hi=>by
  rw[QcS hg (by omega),if_neg (by omega)])
 have:=a1 x y hx hy e
 omega
theorem QFb{l:List Int}{n:Nat}(hl:l.length=n)(h:∀i k:Nat,i<n→k<n→gt l (i:Int)=gt l (k:Int)→i=k):l.Nodup:=by
 rw[List.nodup_iff_pairwise_ne,List.pairwise_iff_getElem]
 intro i j hi hj hij e
 have:=h i j (by omega) (by omega) (by rw[Xc hi,Xc hj];exact e)
 omega
theorem Emb.nn{a b:G}{m:Mo}(h:Emb a b m):m.n.Nodup:=QFb h.ok.ln h.jn
theorem Emb.ne{a b:G}{m:Mo}(h:Emb a b m):m.e.Nodup:=QFb h.ok.le h.je
theorem Emb.mk'{a b:G}{m:Mo}(h:MOk a b m)(h1:m.n.Nodup)(h2:m.e.Nodup):Emb a b m:=
 ⟨h,fun i k hi hk e=>Y0 h1 (by rw[h.ln];exact hi) (by rw[h.ln];exact hk) e,fun i k hi hk e=>Y0 h2 (by rw[h.le];exact hi) (by rw[h.le];exact hk) e⟩
theorem Bx.of{na nb nc nd:Nat}{f g h k:List Int}(hS:Sep na nb nc f g h k)(hf:f.Nodup)(hg:g.Nodup)(lf:f.length=na)(lg:g.length=na)(bf:∀i:Nat,i<na→Bd nb (gt f (i:Int)))(bg:∀i:Nat,i<na→Bd nc (gt g (i:Int)))
  (bh:∀i:Nat,i<nb→Bd nd (gt h (i:Int))) (bk:∀i:Nat,i<nc→Bd nd (gt k (i:Int))) (cm:∀i:Nat,i<na→gt h (gt f (i:Int))=gt k (gt g (i:Int)))
  (cv:∀j:Nat,j<nd→(∃i:Nat,i<nb∧gt h (i:Int)=j)∨∃i:Nat,i<nc∧gt k (i:Int)=j):Bx na nb nc nd (gt f) (gt g) (gt h) (gt k):=by
 refine⟨fun a ha=>?_,fun a ha=>?_,fun a ha=>?_,fun a ha=>?_,fun a ha=>?_,fun b c hb hc e=>?_,fun d hd=>?_,fun x y hx hy e=>?_,fun x y hx hy e=>?_⟩
 ·obtain⟨i,hi,rfl⟩:=ha.nat;exact bf i hi
 ·obtain⟨i,hi,rfl⟩:=ha.nat;exact bg i hi
 ·obtain⟨i,hi,rfl⟩:=ha.nat;exact bh i hi
 ·obtain⟨i,hi,rfl⟩:=ha.nat;exact bk i hi
 ·obtain⟨i,hi,rfl⟩:=ha.nat;exact cm i hi
 ·obtain⟨i,hi,rfl⟩:=hb.nat
  obtain⟨j,hj,rfl⟩:=hc.nat
  obtain⟨t,ht,h1,h2⟩:=hS.monoF hf lf hi hj e
  exact⟨t,Bd.of ht,h1,h2⟩
 ·obtain⟨j,hj,rfl⟩:=hd.nat
  rcases cv j hj with⟨i,hi,e⟩|⟨i,hi,e⟩
  ·exact .inl ⟨i,Bd.of hi,e⟩
  ·exact .inr ⟨i,Bd.of hi,e⟩
 ·obtain⟨i,hi,rfl⟩:=hx.nat
  obtain⟨j,hj,rfl⟩:=hy.nat
  rw[hS.injG hg lg hi hj e]
 ·obtain⟨i,hi,rfl⟩:=hx.nat
  obtain⟨j,hj,rfl⟩:=hy.nat
  rw[hS.sw.injG hf lf hi hj e]
theorem QkQ{s:Sp}(hs:SOk s)(ef:Emb s.a s.b s.f)(eg:Emb s.a s.c s.g):BxG s.a s.b s.c (poG s) s.f s.g (poP s) (poK s):=by
 have hp:=hs.p
 have hk:=hs.k
 have bn:=Bx.of (nd:=(poG s).n.length) hs.sepN ef.nn eg.nn ef.ok.ln eg.ok.ln (fun i hi=>ef.bn (Bd.of hi)) (fun i hi=>eg.bn (Bd.of hi)) (fun i hi=>(hp.nd i hi).1) (fun i hi=>(hk.nd i hi).1)
  (fun i hi=>QbR hs.comm (by rw[ef.ok.ln];exact hi) (by rw[eg.ok.ln];exact hi)) fun j hj=>hs.surN hj
 have be:=Bx.of (nd:=(poG s).e.length) hs.sepE ef.ne eg.ne ef.ok.le eg.ok.le (fun i hi=>ef.be (Bd.of hi)) (fun i hi=>eg.be (Bd.of hi)) (fun i hi=>(hp.ed i hi).1) (fun i hi=>(hk.ed i hi).1)
  (fun i hi=>QbS hs.comm (by rw[ef.ok.le];exact hi) (by rw[eg.ok.le];exact hi)) fun j hj=>hs.surE hj
 refine⟨ef,eg,⟨hp,fun i k hi hk e=>?_,fun i k hi hk e=>?_⟩,⟨hk,fun i k hi hk e=>?_,fun i k hi hk e=>?_⟩,bn,be⟩
 ·have:=bn.ih _ _ (Bd.of hi) (Bd.of hk) e;omega
 ·have:=be.ih _ _ (Bd.of hi) (Bd.of hk) e;omega
 ·have:=bn.ik _ _ (Bd.of hi) (Bd.of hk) e;omega
 ·have:=be.ik _ _ (Bd.of hi) (Bd.of hk) e;omega
theorem Qba{im kn:List Int}(h:im.Nodup):idL im kn=[]:=by
 have hR:∀i n,n≤im.length→i<im.length→idR im kn i n=[]:=fun i n=>by
  induction n with
  |zero=>intro _ _;rfl
  |succ n ih=>
   intro hn hi
   rw[idR,ih (by omega) hi,if_neg]
   rintro⟨h1,h2⟩
   simp only[idP,Qi,Qk] at h2
   have:=Y0 h hi (show n<im.length by omega) h2.1
   omega
 have hA:∀n,n≤im.length→idA im kn n=[]:=fun n=>by
  induction n with
  |zero=>intro _;rfl
  |succ n ih=>
   intro hn
   rw[idA,ih (by omega),hR n _ (Qf _) (by omega)]
   rfl
 exact hA _ (Qf _)
theorem Qb4{l:List Int}(h:l.Pairwise (·<·)):l.Nodup:=h.imp fun h e=>by omega
theorem Bx.ig{A B C D:Nat}{f g h k:Int→Int}(b:Bx A B C D f g h k)(hf:∀x y,Bd A x→Bd A y→f x=f y→x=y):∀x y,Bd A x→Bd A y→g x=g y→x=y:=fun x y hx hy e=>by
 have h1:=b.cm x hx
 have h2:=b.cm y hy
 rw[e,←h2] at h1
 exact hf x y hx hy (b.ih _ _ (b.bf x hx) (b.bf y hy) h1)
theorem QFc{im kn:List Int}{n:Nat}(hn:im.Nodup)(hb:∀i:Nat,i<im.length→0≤gt im (i:Int)∧gt im (i:Int)<n)(hk:AscL kn im.length):
  Bx kn.length im.length (X4 n (Xm im kn)).length n (gt kn) (gt (toL im kn (X4 n (Xm im kn)))) (gt im) (gt (X4 n (Xm im kn))):=by
 have hid:=Qba (kn:=kn) hn
 have hra:(X4 n (Xm im kn)).Nodup:=Qb4 (QkO _ _)
 refine⟨fun a ha=>?_,fun a ha=>?_,fun a ha=>?_,fun a ha=>?_,fun a ha=>?_,fun b c hb' hc e=>?_,fun d hd=>?_,fun x y hx hy e=>?_,fun x y hx hy e=>?_⟩
 ·exact hk.b _ (gt_mem ha.1 ha.2)
 ·obtain⟨i,hi,rfl⟩:=ha.nat
  obtain⟨t,t1,t2,_⟩:=Qa9 hid hb hk hi
  rw[t2];exact Bd.of t1
 ·obtain⟨i,hi,rfl⟩:=ha.nat
  exact hb i hi
 ·have:=gt_mem ha.1 ha.2
  obtain⟨j,hj,_,h3⟩:=sel_mem.1 this
  rw[h3];exact Bd.of hj
 ·obtain⟨i,hi,rfl⟩:=ha.nat
  obtain⟨t,t1,t2,_,t4⟩:=Qa9 hid hb hk hi
  rw[t2,t4]
 ·obtain⟨i,hi,rfl⟩:=hb'.nat
  have hm:=gt_mem hc.1 hc.2
  rw[←e] at hm
  have hik:=QYu hid hb hk hi hm
  obtain⟨a,ha,ea⟩:=X2 hik
  refine⟨a,Bd.of ha,ea,?_⟩
  obtain⟨t,t1,t2,_,t4⟩:=Qa9 hid hb hk ha
  obtain⟨j,hj,rfl⟩:=hc.nat
  rw[ea,e] at t4
  rw[t2,Y0 hra t1 hj t4]
 ·obtain⟨j,hj,rfl⟩:=hd.nat
  by_cases c:(j:Int)∈Xm im kn
  ·obtain⟨i,h1,_,h3⟩:=goneL_mem.1 c
   exact .inl ⟨i,Bd.of h1,h3⟩
  ·obtain⟨t,ht,et⟩:=X2 (rest_mem.2 ⟨hj,c⟩)
   exact .inr ⟨t,Bd.of ht,et⟩
 ·obtain⟨i,hi,rfl⟩:=hx.nat
  obtain⟨j,hj,rfl⟩:=hy.nat
  rw[Y0 hn hi hj e]
 ·obtain⟨i,hi,rfl⟩:=hx.nat
  obtain⟨j,hj,rfl⟩:=hy.nat
  rw[Y0 hra hi hj e]
theorem Qak{g:G}{p:Mo}(h:PK g p):Emb (ptG g p) g p:=Emb.mk' (Qks h) (Qb4 h.n.p) (Qb4 h.e.p)
theorem QFd{x:Cx}(he:cxE x=0)(hm:Emb x.l x.g x.m)(z3:Yu x=[]):BxG (ptG x.l x.k) x.l (ptG x.g (cxP x)) x.g x.k (Jz x (cxP x)) x.m (cxP x):=by
 obtain⟨_,hk⟩:=QaF he
 have z1:=Qba (kn:=x.k.n) hm.nn
 have z2:=Qba (kn:=x.k.e) hm.ne
 have hp:=QeN he z1 z2 z3
 have ht:=QYv he z1 z2 z3
 have ln:=hm.ok.ln
 have le:=hm.ok.le
 have la:(ptG x.l x.k).n.length=x.k.n.length:=Xp _ _
 have lb:(ptG x.l x.k).e.length=x.k.e.length:=Je _ _ _
 have lc:(ptG x.g (cxP x)).n.length=(cxP x).n.length:=Xp _ _
 have ld:(ptG x.g (cxP x)).e.length=(cxP x).e.length:=Je _ _ _
 have bn:=QFc (im:=x.m.n) (kn:=x.k.n) (n:=x.g.n.length) hm.nn (fun i hi=>(hm.ok.nd i (by omega)).1) (by rw[ln];exact hk.n)
 have be:=QFc (im:=x.m.e) (kn:=x.k.e) (n:=x.g.e.length) hm.ne (fun i hi=>(hm.ok.ed i (by omega)).1) (by rw[le];exact hk.e)
 rw[ln] at bn
 rw[le] at be
 have bn':Bx (ptG x.l x.k).n.length x.l.n.length (ptG x.g (cxP x)).n.length x.g.n.length (gt x.k.n) (gt (Jz x (cxP x)).n) (gt x.m.n) (gt (cxP x).n):=by rw[la,lc];exact bn
 have be':Bx (ptG x.l x.k).e.length x.l.e.length (ptG x.g (cxP x)).e.length x.g.e.length (gt x.k.e) (gt (Jz x (cxP x)).e) (gt x.m.e) (gt (cxP x).e):=by rw[lb,ld];exact be
 have ek:=Qak hk
 have eto:Emb (ptG x.l x.k) (ptG x.g (cxP x)) (Jz x (cxP x)):=by
  refine⟨ht,fun i j hi hj e=>?_,fun i j hi hj e=>?_⟩
  ·have:=bn'.ig (fun a b ha hb e=>ek.in ha hb e) _ _ (Bd.of hi) (Bd.of hj) e
   omega
  ·have:=be'.ig (fun a b ha hb e=>ek.ie ha hb e) _ _ (Bd.of hi) (Bd.of hj) e
   omega
 exact⟨ek,eto,hm,Qak hp,bn',be'⟩
end
def Ym(l:List Int)(x:E):E:=⟨x.t,gt l x.f,gt l x.o⟩
def ovG(b p:G)(ns es:List Int):G:=⟨b.n++nwL ns p.n,b.e++nwL es (p.e.map (Ym (Xy b.n.length ns)))⟩
def ovM(b:G)(ns es:List Int):Mo:=⟨Xy b.n.length ns,Xy b.e.length es⟩
def Zx(C:List Int)(ok:List Int→Int→Bool):Nat→List Int→List (List Int)
 |0,ns=>[ns]
 |k+1,ns=>C.flatMap fun n=>if ok ns n then Zx C ok k (ns++[n]) else []
def YU(n:Nat):List Int:= -1::Xf 0 n
def Y6(b p:G)(ns:List Int)(n:Int):Bool:=decide (n<0)||(decide (gt b.n n=gt p.n ns.length)&&!decide (n∈ns))
def Y7(b p:G)(ns es:List Int)(n:Int):Bool:=decide (n<0)||(decide (gt b.e n=Ym ns (gt p.e es.length))&&!decide (n∈es))
def QeO(b p:G)(ns:List Int):List (List Int×List Int):=(Zx (YU b.e.length) (Y7 b p ns) p.e.length []).map fun es=>(ns,es)
def Z1(b p:G):List (List Int×List Int):=(Zx (YU b.n.length) (Y6 b p) p.n.length []).flatMap (QeO b p)
structure OvOk(b p:G)(ns es:List Int):Prop where
 ln:ns.length=p.n.length
 le:es.length=p.e.length
 nb:∀i:Nat,i<p.n.length→gt ns (i:Int)= -1∨((0≤gt ns (i:Int)∧gt ns (i:Int)<b.n.length)∧gt b.n (gt ns (i:Int))=gt p.n (i:Int))
 nj:∀i k:Nat,i<p.n.length→k<p.n.length→0≤gt ns (i:Int)→gt ns (i:Int)=gt ns (k:Int)→i=k
 eb:∀i:Nat,i<p.e.length→gt es (i:Int)= -1∨((0≤gt es (i:Int)∧gt es (i:Int)<b.e.length)∧gt b.e (gt es (i:Int))=Ym ns (gt p.e (i:Int)))
 ej:∀i k:Nat,i<p.e.length→k<p.e.length→0≤gt es (i:Int)→gt es (i:Int)=gt es (k:Int)→i=k
def Agr(a b:G)(m n:Mo)(ns es:List Int):Prop:=(∀i:Nat,i<a.n.length→gt m.n (i:Int)=gt (Xy b.n.length ns) (gt n.n (i:Int)))∧∀i:Nat,i<a.e.length→gt m.e (i:Int)=gt (Xy b.e.length es) (gt n.e (i:Int))
section
theorem QFe{l:List Int}{i k:Nat}(h:k<i)(hl:i≤l.length):gt (l.take i) (k:Int)=gt l (k:Int):=by
 rw[Xc (by simp;omega),Xc (by omega),List.getElem_take]
theorem mem_fullC{C:List Int}{ok:List Int→Int→Bool}:∀{k:Nat}{ns l:List Int},l∈Zx C ok k ns↔l.length=ns.length+k∧l.take ns.length=ns∧∀i:Nat,ns.length≤i→i<l.length→gt l (i:Int)∈C∧ok (l.take i) (gt l (i:Int))=true
 |0,ns,l=>by
  simp only[Zx,Qn,Nat.add_zero]
  constructor
  ·rintro rfl
   exact⟨rfl,List.take_length,fun i h1 h2=>by omega⟩
  ·rintro⟨h1,h2,_⟩
   rw[←h1,List.take_length] at h2
   exact h2
 |k+1,ns,l=>by
  simp only[Zx,Qp]
  constructor
  ·rintro⟨n,hn,h⟩
   split at h
   ·rename_i hok
    obtain⟨h1,h2,h3⟩:=mem_fullC.1 h
    simp only[Ql,List.length_singleton] at h1 h2 h3
    have hg:gt l (ns.length:Int)=n∧l.take ns.length=ns:=by
     have e:=Yk (l:=l) (i:=ns.length) (by omega)
     rw[h2] at e
     obtain⟨e1,e2⟩:=List.append_inj' e rfl
     simp only[List.cons.injEq,and_true] at e2
     exact⟨e2.symm,e1.symm⟩
    refine⟨by omega,hg.2,fun i h4 h5=>?_⟩
    rcases Nat.lt_or_ge ns.length i with h6|h6
    ·exact h3 i (by omega) h5
    ·obtain rfl:i=ns.length:=by omega
     rw[hg.1,hg.2]
     exact⟨hn,hok⟩
   ·cases h
  ·rintro⟨h1,h2,h3⟩
   obtain⟨h4,h6⟩:=h3 ns.length (Qf _) (by omega)
   rw[h2] at h6
   refine⟨gt l (ns.length:Int),h4,?_⟩
   rw[if_pos h6]
   refine mem_fullC.2 ⟨by simp;omega,?_,fun i h7 h8=>h3 i (by simp at h7;omega) h8⟩
   rw[Ql,List.length_singleton,Yk (by omega),h2]
theorem QYw{n:Nat}{x:Int}:x∈Xf 0 n↔0≤x∧x<n:=by
 unfold Xf
 constructor
 ·intro h
  simp at h
  omega
 ·intro h
  simp
  exact⟨x.toNat,by omega,by omega⟩
theorem QYx{n:Nat}{x:Int}:x∈YU n↔x= -1∨(0≤x∧x<n):=by
 simp only[YU,Qh,QYw]
theorem QeP{l:List Int}{i:Nat}(hi:i<l.length):gt l (i:Int)∉l.take i↔∀k:Nat,k<i→gt l (k:Int)≠gt l (i:Int):=by
 constructor
 ·intro h k hk e
  apply h
  rw[←e,←QFe hk (by omega)]
  exact gt_mem (by omega) (by simp;omega)
 ·intro h hm
  obtain⟨k,hk,e⟩:=List.mem_iff_getElem.1 hm
  simp only[Qj] at hk
  refine h k (by omega) ?_
  rw[←QFe (i:=i) (by omega) (by omega),Xc (by simp;omega)]
  exact e
theorem mem_lapL{b p:G}{ns es:List Int}:(ns,es)∈Z1 b p↔OvOk b p ns es:=by
 have e1:(ns,es)∈Z1 b p↔ns∈Zx (YU b.n.length) (Y6 b p) p.n.length []∧es∈Zx (YU b.e.length) (Y7 b p ns) p.e.length []:=by
  simp only[Z1,QeO,Qp,Qu,Qe]
  constructor
  ·rintro⟨u,h1,v,h2,rfl,rfl⟩
   exact⟨h1,h2⟩
  ·rintro⟨h1,h2⟩
   exact⟨ns,h1,es,h2,rfl,rfl⟩
 rw[e1,mem_fullC,mem_fullC]
 simp only[List.length_nil,Nat.zero_add,List.take_zero,true_and,Nat.zero_le,forall_const,QYx]
 have key:∀{l:List Int}{n:Nat},l.length=n→(∀i:Nat,i<n→gt l (i:Int)<0∨∀k:Nat,k<i→gt l (k:Int)≠gt l (i:Int))→∀i k:Nat,i<n→k<n→0≤gt l (i:Int)→gt l (i:Int)=gt l (k:Int)→i=k:=fun hl h i k hi hk h0 e=>by
  rcases Nat.lt_trichotomy i k with h1|h1|h1
  ·rcases h k hk with h2|h2
   ·omega
   ·exact absurd e (h2 i h1)
  ·exact h1
  ·rcases h i hi with h2|h2
   ·omega
   ·exact absurd e.symm (h2 k h1)
 constructor
 ·rintro⟨⟨h1,h2⟩,h3,h4⟩
  refine⟨h1,h3,fun i hi=>?_,key h1 fun i hi=>?_,fun i hi=>?_,key h3 fun i hi=>?_⟩
  ·obtain⟨h5,h6⟩:=h2 i (by omega)
   simp only[Y6,Qx,Qi,Qk,Qj,show min i ns.length=i by omega] at h6
   rcases h5 with h5|h5
   ·exact .inl h5
   ·rcases h6 with h6|h6
    ·omega
    ·exact .inr ⟨h5,h6.1⟩
  ·obtain⟨h5,h6⟩:=h2 i (by omega)
   simp only[Y6,Qx,Qi,Qk,Bool.not_eq_true',QE] at h6
   rcases h6 with h6|h6
   ·exact .inl h6
   ·exact .inr ((QeP (by omega)).1 h6.2)
  ·obtain⟨h5,h6⟩:=h4 i (by omega)
   simp only[Y7,Qx,Qi,Qk,Qj,show min i es.length=i by omega] at h6
   rcases h5 with h5|h5
   ·exact .inl h5
   ·rcases h6 with h6|h6
    ·omega
    ·exact .inr ⟨h5,h6.1⟩
  ·obtain⟨h5,h6⟩:=h4 i (by omega)
   simp only[Y7,Qx,Qi,Qk,Bool.not_eq_true',QE] at h6
   rcases h6 with h6|h6
   ·exact .inl h6
   ·exact .inr ((QeP (by omega)).1 h6.2)
 ·intro h
  have l1:=h.ln
  have l2:=h.le
  refine⟨⟨l1,fun i hi=>?_⟩,l2,fun i hi=>?_⟩
  ·rcases h.nb i (by omega) with h1|⟨h1,h2⟩
   ·exact⟨.inl h1,by simp [Y6,h1]⟩
   ·refine⟨.inr h1,?_⟩
    simp only[Y6,Qx,Qi,Qk,Bool.not_eq_true',QE,Qj,show min i ns.length=i by omega]
    refine .inr ⟨h2,(QeP hi).2 fun k hk e=>?_⟩
    have:=h.nj k i (by omega) (by omega) (by omega) e
    omega
  ·rcases h.eb i (by omega) with h1|⟨h1,h2⟩
   ·exact⟨.inl h1,by simp [Y7,h1]⟩
   ·refine⟨.inr h1,?_⟩
    simp only[Y7,Qx,Qi,Qk,Bool.not_eq_true',QE,Qj,show min i es.length=i by omega]
    refine .inr ⟨h2,(QeP hi).2 fun k hk e=>?_⟩
    have:=h.ej k i (by omega) (by omega) (by omega) e
    omega
theorem Qbb{α:Type}[Inhabited α]{x y:List α}{i:Int}(h0:0≤i)(h:i<x.length):gt (x++y) i=gt x i:=by
 obtain⟨j,rfl⟩:=Qz h0
 rw[Xc (by simp;omega),Xc (by omega),List.getElem_append_left (by omega)]
theorem QcV{α:Type}:∀(l:List Int)(v:List α),(nwL l v).length≤v.length
 |[],v=>by simp [nwL]
 |k::l,[]=>by simp [nwL]
 |k::l,w::v=>by
  have:=QcV l v
  rw[nwL]
  split<;>simp<;>omega
theorem QeQ{α:Type}{x:α}:∀{l:List Int}{v:List α},x∈nwL l v→x∈v
 |[],v,h=>by simp [nwL] at h
 |k::l,[],h=>by simp [nwL] at h
 |k::l,w::v,h=>by
  rw[nwL] at h
  split at h
  ·rcases Qh.1 h with h|h
   ·rw[h];simp
   ·exact Qs _ (QeQ h)
  ·exact Qs _ (QeQ h)
theorem QeR{b p:G}{ns es:List Int}(vb:QX b=0)(vp:QX p=0)(s1:b.n.length+p.n.length≤40)(s2:b.e.length+p.e.length≤80)(h:OvOk b p ns es):Emb b (ovG b p ns es) (idM b)∧Emb p (ovG b p ns es) (ovM b ns es):=by
 obtain⟨_,_,b3,b4⟩:=Q8 vb
 obtain⟨_,_,p3,p4⟩:=Q8 vp
 have l1:=h.ln
 have l2:=h.le
 have hlt:∀i:Nat,i<ns.length→gt ns (i:Int)<b.n.length:=fun i hi=>by
  rcases h.nb i (by omega) with h1|h1<;>omega
 have hle:∀i:Nat,i<es.length→gt es (i:Int)<b.e.length:=fun i hi=>by
  rcases h.eb i (by omega) with h1|h1<;>omega
 have on:=fun i hi=>Qa7 (H:=b.n) (v:=p.n) (l:=ns) rfl l1.symm hlt i hi
 have oe:=fun i hi=>Qa7 (H:=b.e) (v:=p.e.map (Ym (Xy b.n.length ns))) (l:=es) rfl (by rw[Qv,l2]) hle i hi
 have hr:∀f:Int,0≤f→f<p.n.length→(0≤gt (Xy b.n.length ns) f∧gt (Xy b.n.length ns) f<(b.n++nwL ns p.n).length):=fun f h0 h1=>by
  obtain⟨i,rfl⟩:=Qz h0
  exact (on i (by omega)).1
 have vo:QX (ovG b p ns es)=0:=by
  refine Qa4 ?_ ?_ (fun x hx=>?_) fun x hx=>?_
  ·simp only[ovG,Ql]
   have:=QcV ns p.n
   omega
  ·simp only[ovG,Ql]
   have:=QcV es (p.e.map (Ym (Xy b.n.length ns)))
   rw[Qv] at this
   omega
  ·rcases Qg.1 hx with hx|hx
   ·exact b3 x hx
   ·exact p3 x (QeQ hx)
  ·rcases Qg.1 hx with hx|hx
   ·have:=b4 x hx
    simp only[XP,Qi,Qk,ovG,Ql] at this ⊢
    omega
   ·obtain⟨y,hy,rfl⟩:=Qu.1 (QeQ hx)
    have:=p4 y hy
    simp only[XP,Qi,Qk] at this
    have r1:=hr y.f (by omega) (by omega)
    have r2:=hr y.o (by omega) (by omega)
    refine Jr (x:=Ym (Xy b.n.length ns) y) ?_ ?_ ?_
    ·show 0≤y.t∧y.t≤99
     omega
    ·exact r1
    ·exact r2
 have hnn:∀(n i:Nat),i<n→gt (Xf 0 n) (i:Int)=i:=fun n i hi=>XN hi
 refine⟨⟨⟨vb,vo,Xh _ _,Xh _ _,fun i hi=>?_,fun i hi=>?_⟩,fun i k hi hk e=>?_,fun i k hi hk e=>?_⟩,⟨⟨vp,vo,?_,?_,fun i hi=>?_,fun i hi=>?_⟩,fun i k hi hk e=>?_,fun i k hi hk e=>?_⟩⟩
 ·simp only[idM,ovG,Ql]
  rw[hnn _ _ hi,Qbb (by omega) (by omega)]
  exact⟨by omega,rfl⟩
 ·have hv:=b4 _ (gt_mem (l:=b.e) (j:=(i:Int)) (by omega) (by omega))
  simp only[XP,Qi,Qk] at hv
  simp only[idM,ovG,Ql]
  rw[hnn _ _ hi,Qbb (by omega) (by omega)]
  refine⟨by omega,rfl,?_,?_⟩
  ·obtain⟨j,hj⟩:=Qz (show 0≤(gt b.e (i:Int)).f by omega)
   rw[hj];exact hnn _ _ (by omega)
  ·obtain⟨j,hj⟩:=Qz (show 0≤(gt b.e (i:Int)).o by omega)
   rw[hj];exact hnn _ _ (by omega)
 ·simp only[idM] at e
  rw[hnn _ _ hi,hnn _ _ hk] at e
  omega
 ·simp only[idM] at e
  rw[hnn _ _ hi,hnn _ _ hk] at e
  omega
 ·simp only[ovM,JI,l1]
 ·simp only[ovM,JI,l2]
 ·obtain⟨h1,h2⟩:=on i (by omega)
  refine⟨h1,?_⟩
  simp only[ovM,ovG]
  rw[h2]
  split
  ·rfl
  ·rcases h.nb i hi with h3|h3
   ·omega
   ·exact h3.2
 ·obtain⟨h1,h2⟩:=oe i (by omega)
  have hv:=p4 _ (gt_mem (l:=p.e) (j:=(i:Int)) (by omega) (by omega))
  simp only[XP,Qi,Qk] at hv
  refine⟨h1,?_⟩
  simp only[ovM,ovG]
  rw[h2]
  split
  ·rw[JZ hi]
   exact⟨rfl,rfl,rfl⟩
  ·rcases h.eb i hi with h3|⟨h3,h4⟩
   ·omega
   ·have hb:=b4 _ (gt_mem (l:=b.e) (j:=gt es (i:Int)) h3.1 (by omega))
    rw[h4] at hb ⊢
    replace hb:=YZ hb
    simp only[Ym] at hb ⊢
    refine⟨trivial,?_,?_⟩
    ·obtain⟨j,hj⟩:=Qz (show 0≤(gt p.e (i:Int)).f by omega)
     rw[hj] at hb hv ⊢
     exact (Jv (by omega)).2 (by omega)
    ·obtain⟨j,hj⟩:=Qz (show 0≤(gt p.e (i:Int)).o by omega)
     rw[hj] at hb hv ⊢
     exact (Jv (by omega)).2 (by omega)
 all_goals
  simp only[ovM] at e
 ·obtain⟨u1,u2⟩:=Jv (l:=ns) (n:=b.n.length) (i:=i) (by omega)
  obtain⟨v1,v2⟩:=Jv (l:=ns) (n:=b.n.length) (i:=k) (by omega)
  have:=hlt i (by omega)
  have:=hlt k (by omega)
  by_cases c1:gt ns (i:Int)<0<;>by_cases c2:gt ns (k:Int)<0
  ·exact Qej (by omega) (by omega) c1 c2 e
  ·have:=u1 c1;have:=v2 (by omega);omega
  ·have:=u2 (by omega);have:=v1 c2;omega
  ·have:=u2 (by omega);have:=v2 (by omega)
   exact h.nj i k hi hk (by omega) (by omega)
 ·obtain⟨u1,u2⟩:=Jv (l:=es) (n:=b.e.length) (i:=i) (by omega)
  obtain⟨v1,v2⟩:=Jv (l:=es) (n:=b.e.length) (i:=k) (by omega)
  have:=hle i (by omega)
  have:=hle k (by omega)
  by_cases c1:gt es (i:Int)<0<;>by_cases c2:gt es (k:Int)<0
  ·exact Qej (by omega) (by omega) c1 c2 e
  ·have:=u1 c1;have:=v2 (by omega);omega
  ·have:=u2 (by omega);have:=v1 c2;omega
  ·have:=u2 (by omega);have:=v2 (by omega)
   exact h.ej i k hi hk (by omega) (by omega)
end
section
open Classical in
noncomputable def facL (H v:List Int):List Int:=v.map fun x=>if c:∃j:Nat,j<H.length∧gt H (j:Int)=x then (c.choose:Int) else -1
theorem QcW(H v:List Int):(facL H v).length=v.length:=by simp [facL]
theorem QkR{H v:List Int}{i:Nat}(hi:i<v.length):(gt (facL H v) (i:Int)= -1∧∀j:Nat,j<H.length→gt H (j:Int)≠gt v (i:Int))∨∃j:Nat,j<H.length∧gt (facL H v) (i:Int)=j∧gt H (j:Int)=gt v (i:Int):=by
 classical
 rw[facL,JZ hi]
 by_cases c:∃j:Nat,j<H.length∧gt H (j:Int)=gt v (i:Int)
 ·right
  rw[dif_pos c]
  exact⟨c.choose,c.choose_spec.1,rfl,c.choose_spec.2⟩
 ·left
  rw[dif_neg c]
  exact⟨rfl,fun j hj e=>c ⟨j,hj,e⟩⟩
theorem QkS{α β:Type}:∀{l:List Int}{v:List α}{w:List β},v.length=w.length→(nwL l v).length=(nwL l w).length
 |[],v,w,_=>by simp [nwL]
 |k::l,[],w,h=>by cases w<;>simp at h<;>simp [nwL]
 |k::l,a::v,[],h=>by simp at h
 |k::l,a::v,b::w,h=>by
  have:=QkS (l:=l) (v:=v) (w:=w) (by simpa using h)
  rw[nwL,nwL]
  split<;>simp [this]
theorem QYy{b p x:G}{h q:Mo}(hh:Emb b x h)(hq:Emb p x q)(s1:b.n.length+p.n.length≤40)(s2:b.e.length+p.e.length≤80):
  OvOk b p (facL h.n q.n) (facL h.e q.e)∧∃k,Emb (ovG b p (facL h.n q.n) (facL h.e q.e)) x k∧QY (idM b) k=h∧QY (ovM b (facL h.n q.n) (facL h.e q.e)) k=q:=by
 have a1:=hh.ok.ln
 have a2:=hh.ok.le
 have a3:=hq.ok.ln
 have a4:=hq.ok.le
 have fn:=fun i (hi:i<p.n.length)=>QkR (H:=h.n) (v:=q.n) (i:=i) (by omega)
 have fe:=fun i (hi:i<p.e.length)=>QkR (H:=h.e) (v:=q.e) (i:=i) (by omega)
 have m1:=QcW h.n q.n
 have m2:=QcW h.e q.e
 generalize facL h.n q.n=ns at*
 generalize facL h.e q.e=es at*
 obtain⟨_,_,_,b4⟩:=Q8 hh.ok.va
 obtain⟨_,_,_,p4⟩:=Q8 hq.ok.va
 --an end of an edge of p that is an edge of b too
 have hend:∀f g:Int,0≤f→f<p.n.length→0≤g→g<b.n.length→gt h.n g=gt q.n f→gt ns f=g:=fun f g h0 h1 h2 h3 e=>by
  obtain⟨i,rfl⟩:=Qz h0
  obtain⟨j,rfl⟩:=Qz h2
  rcases fn i (by omega) with⟨_,u⟩|⟨u,hu,e1,e2⟩
  ·exact absurd e (u j (by omega))
  ·rw[e1]
   have:=hh.jn u j (by omega) (by omega) (by rw[e2,e])
   omega
 have hok:OvOk b p ns es:=by
  refine⟨by omega,by omega,fun i hi=>?_,fun i k hi hk h0 e=>?_,fun i hi=>?_,fun i k hi hk h0 e=>?_⟩
  ·rcases fn i hi with⟨u,_⟩|⟨u,hu,e1,e2⟩
   ·exact .inl u
   ·refine .inr ⟨by omega,?_⟩
    rw[e1,←(hh.ok.nd u (by omega)).2,e2,(hq.ok.nd i hi).2]
  ·rcases fn i hi with⟨u,_⟩|⟨u,hu,e1,e2⟩
   ·omega
   ·rcases fn k hk with⟨v,_⟩|⟨v,hv,e3,e4⟩
    ·omega
    ·have:u=v:=by omega
     subst this
     exact hq.jn i k hi hk (by rw[←e2,←e4])
  ·rcases fe i hi with⟨u,_⟩|⟨u,hu,e1,e2⟩
   ·exact .inl u
   ·refine .inr ⟨by omega,?_⟩
    have hv:=p4 _ (gt_mem (l:=p.e) (j:=(i:Int)) (by omega) (by omega))
    have hw:=b4 _ (gt_mem (l:=b.e) (j:=(u:Int)) (by omega) (by omega))
    simp only[XP,Qi,Qk] at hv hw
    obtain⟨_,t1,t2,t3⟩:=hh.ok.ed u (by omega)
    obtain⟨_,t4,t5,t6⟩:=hq.ok.ed i hi
    rw[e2] at t1 t2 t3
    have g1:=hend (gt p.e (i:Int)).f (gt b.e (u:Int)).f (by omega) (by omega) (by omega) (by omega) (by rw[t2,t5])
    have g2:=hend (gt p.e (i:Int)).o (gt b.e (u:Int)).o (by omega) (by omega) (by omega) (by omega) (by rw[t3,t6])
    rw[e1]
    simp only[Ym]
    rw[g1,g2,t4,←t1]
  ·rcases fe i hi with⟨u,_⟩|⟨u,hu,e1,e2⟩
   ·omega
   ·rcases fe k hk with⟨v,_⟩|⟨v,hv,e3,e4⟩
    ·omega
    ·have:u=v:=by omega
     subst this
     exact hq.je i k hi hk (by rw[←e2,←e4])
 refine⟨hok,⟨h.n++nwL ns q.n,h.e++nwL es q.e⟩,?_⟩
 obtain⟨o1,o2⟩:=QeR hh.ok.va hq.ok.va s1 s2 hok
 have hlt:∀i:Nat,i<ns.length→gt ns (i:Int)<b.n.length:=fun i hi=>by
  rcases hok.nb i (by omega) with h1|h1<;>omega
 have hle:∀i:Nat,i<es.length→gt es (i:Int)<b.e.length:=fun i hi=>by
  rcases hok.eb i (by omega) with h1|h1<;>omega
 have kn:∀i:Nat,i<p.n.length→gt (h.n++nwL ns q.n) (gt (Xy b.n.length ns) (i:Int))=gt q.n (i:Int):=fun i hi=>by
  have:=(Qa7 (H:=h.n) (v:=q.n) (l:=ns) (n:=b.n.length) a1 (by omega) hlt i (by omega)).2
  rw[this]
  split
  ·rfl
  ·rcases fn i hi with⟨u,_⟩|⟨u,hu,e1,e2⟩
   ·omega
   ·rw[e1,e2]
 have ke:∀i:Nat,i<p.e.length→gt (h.e++nwL es q.e) (gt (Xy b.e.length es) (i:Int))=gt q.e (i:Int):=fun i hi=>by
  have:=(Qa7 (H:=h.e) (v:=q.e) (l:=es) (n:=b.e.length) a2 (by omega) hle i (by omega)).2
  rw[this]
  split
  ·rfl
  ·rcases fe i hi with⟨u,_⟩|⟨u,hu,e1,e2⟩
   ·omega
   ·rw[e1,e2]
 have kn':∀f:Int,0≤f→f<p.n.length→gt (h.n++nwL ns q.n) (gt (Xy b.n.length ns) f)=gt q.n f:=fun f h0 h1=>by
  obtain⟨i,rfl⟩:=Qz h0
  exact kn i (by omega)
 have hl:∀j:Int,0≤j→j<b.n.length→gt (h.n++nwL ns q.n) j=gt h.n j:=fun j h0 h1=>Qbb h0 (by omega)
 have hle':∀j:Int,0≤j→j<b.e.length→gt (h.e++nwL es q.e) j=gt h.e j:=fun j h0 h1=>Qbb h0 (by omega)
 have cn:∀j:Nat,j<(ovG b p ns es).n.length→j<b.n.length∨∃i:Nat,i<p.n.length∧gt ns (i:Int)<0∧gt (Xy b.n.length ns) (i:Int)=j:=fun j hj=>by
  rcases Nat.lt_or_ge j b.n.length with c|c
  ·exact .inl c
  ·obtain⟨i,h1,h2,h3⟩:=Qek (l:=ns) (v:=p.n) (n:=b.n.length) (j:=j) (by omega) c (by simpa [ovG] using hj)
   exact .inr ⟨i,by omega,h2,h3⟩
 have ce:∀j:Nat,j<(ovG b p ns es).e.length→j<b.e.length∨∃i:Nat,i<p.e.length∧gt es (i:Int)<0∧gt (Xy b.e.length es) (i:Int)=j:=fun j hj=>by
  rcases Nat.lt_or_ge j b.e.length with c|c
  ·exact .inl c
  ·obtain⟨i,h1,h2,h3⟩:=Qek (l:=es) (v:=p.e.map (Ym (Xy b.n.length ns))) (n:=b.e.length) (j:=j) (by rw[Qv];omega) c (by simpa [ovG] using hj)
   exact .inr ⟨i,by omega,h2,h3⟩
 have hnn:∀(n i:Nat),i<n→gt (Xf 0 n) (i:Int)=i:=fun n i hi=>XN hi
 have hok2:MOk (ovG b p ns es) x ⟨h.n++nwL ns q.n,h.e++nwL es q.e⟩:=by
  refine⟨o1.ok.vb,hh.ok.vb,?_,?_,fun j hj=>?_,fun j hj=>?_⟩
  ·simp only[ovG,Ql]
   rw[a1,QkS (v:=q.n) (w:=p.n) (by omega)]
  ·simp only[ovG,Ql]
   rw[a2,QkS (v:=q.e) (w:=p.e.map (Ym (Xy b.n.length ns))) (by rw[Qv];omega)]
  ·rcases cn j hj with c|⟨i,hi,c1,c2⟩
   ·simp only
    rw[hl _ (by omega) (by omega)]
    refine⟨(hh.ok.nd j c).1,?_⟩
    have:=(o1.ok.nd j c).2
    simp only[idM] at this
    rw[hnn _ _ c] at this
    rw[this,(hh.ok.nd j c).2]
   ·simp only
    rw[←c2,kn i hi]
    refine⟨(hq.ok.nd i hi).1,?_⟩
    have:=(o2.ok.nd i hi).2
    simp only[ovM] at this
    rw[this,(hq.ok.nd i hi).2]
  ·rcases ce j hj with c|⟨i,hi,c1,c2⟩
   ·have hw:=b4 _ (gt_mem (l:=b.e) (j:=(j:Int)) (by omega) (by omega))
    simp only[XP,Qi,Qk] at hw
    have e1:gt (ovG b p ns es).e (j:Int)=gt b.e (j:Int):=Qbb (by omega) (by omega)
    simp only
    rw[e1,hle' _ (by omega) (by omega),hl _ (by omega) (by omega),hl _ (by omega) (by omega)]
    exact hh.ok.ed j c
   ·have hv:=p4 _ (gt_mem (l:=p.e) (j:=(i:Int)) (by omega) (by omega))
    simp only[XP,Qi,Qk] at hv
    have e1:gt (ovG b p ns es).e (j:Int)=Ym (Xy b.n.length ns) (gt p.e (i:Int)):=by
     have:=(Qa7 (H:=b.e) (v:=p.e.map (Ym (Xy b.n.length ns))) (l:=es) (n:=b.e.length) rfl (by rw[Qv];omega) hle i (by omega)).2
     rw[c2,if_pos c1,JZ hi] at this
     exact this
    simp only
    rw[e1,←c2,ke i hi]
    simp only[Ym]
    rw[kn' _ (by omega) (by omega),kn' _ (by omega) (by omega)]
    exact hq.ok.ed i hi
 refine⟨⟨hok2,fun i k hi hk e=>?_,fun i k hi hk e=>?_⟩,?_,?_⟩
 ·simp only at e
  rcases cn i hi with c|⟨u,hu,c1,c2⟩<;>rcases cn k hk with d|⟨v,hv,d1,d2⟩
  ·rw[hl _ (by omega) (by omega),hl _ (by omega) (by omega)] at e
   exact hh.jn i k c d e
  ·rw[hl _ (by omega) (by omega),←d2,kn v hv] at e
   rcases fn v hv with⟨_,w⟩|⟨w,_,w1,_⟩
   ·exact absurd e (w i (by omega))
   ·omega
  ·rw[←c2,kn u hu,hl _ (by omega) (by omega)] at e
   rcases fn u hu with⟨_,w⟩|⟨w,_,w1,_⟩
   ·exact absurd e.symm (w k (by omega))
   ·omega
  ·rw[←c2,←d2,kn u hu,kn v hv] at e
   have:=hq.jn u v hu hv e
   subst this
   omega
 ·simp only at e
  rcases ce i hi with c|⟨u,hu,c1,c2⟩<;>rcases ce k hk with d|⟨v,hv,d1,d2⟩
  ·rw[hle' _ (by omega) (by omega),hle' _ (by omega) (by omega)] at e
   exact hh.je i k c d e
  ·rw[hle' _ (by omega) (by omega),←d2,ke v hv] at e
   rcases fe v hv with⟨_,w⟩|⟨w,_,w1,_⟩
   ·exact absurd e (w i (by omega))
   ·omega
  ·rw[←c2,ke u hu,hle' _ (by omega) (by omega)] at e
   rcases fe u hu with⟨_,w⟩|⟨w,_,w1,_⟩
   ·exact absurd e.symm (w k (by omega))
   ·omega
  ·rw[←c2,←d2,ke u hu,ke v hv] at e
   have:=hq.je u v hu hv e
   subst this
   omega
 ·refine JF (Yd ?_ fun i hi=>?_) (Yd ?_ fun i hi=>?_)
  ·simp only[QY,Xp,idM,Xh];omega
  ·simp only[QY,Xp,idM,Xh] at hi ⊢
   rw[Xi (by rw[Xh];exact hi),hnn _ _ hi,hl _ (by omega) (by omega)]
  ·simp only[QY,Xp,idM,Xh];omega
  ·simp only[QY,Xp,idM,Xh] at hi ⊢
   rw[Xi (by rw[Xh];exact hi),hnn _ _ hi,hle' _ (by omega) (by omega)]
 ·refine JF (Yd ?_ fun i hi=>?_) (Yd ?_ fun i hi=>?_)
  ·simp only[QY,Xp,ovM,JI];omega
  ·simp only[QY,Xp,ovM,JI] at hi ⊢
   rw[Xi (by rw[JI];exact hi),kn i (by omega)]
  ·simp only[QY,Xp,ovM,JI];omega
  ·simp only[QY,Xp,ovM,JI] at hi ⊢
   rw[Xi (by rw[JI];exact hi),ke i (by omega)]
theorem QFf{a b p x:G}{m n h q k:Mo}{ns es:List Int}(hm:MOk a b m)(hn:MOk a p n)(ho:Emb b (ovG b p ns es) (idM b))(hr:Emb p (ovG b p ns es) (ovM b ns es))(hk:Emb (ovG b p ns es) x k)(h1:QY (idM b) k=h)(h2:QY (ovM b ns es) k=q):
  QY m h=QY n q↔Agr a b m n ns es:=by
 have hnn:∀(n i:Nat),i<n→gt (Xf 0 n) (i:Int)=i:=fun n i hi=>XN hi
 have rn:∀i:Nat,i<b.n.length→gt h.n (i:Int)=gt k.n (i:Int):=fun i hi=>by
  rw[←h1]
  simp only[QY,idM]
  rw[Xi (by rw[Xh];exact hi),hnn _ _ hi]
 have re:∀i:Nat,i<b.e.length→gt h.e (i:Int)=gt k.e (i:Int):=fun i hi=>by
  rw[←h1]
  simp only[QY,idM]
  rw[Xi (by rw[Xh];exact hi),hnn _ _ hi]
 have qn:∀i:Nat,i<p.n.length→gt q.n (i:Int)=gt k.n (gt (Xy b.n.length ns) (i:Int)):=fun i hi=>by
  rw[←h2]
  simp only[QY,ovM]
  rw[Xi (by have:=hr.ok.ln;simp only[ovM] at this;omega)]
 have qe:∀i:Nat,i<p.e.length→gt q.e (i:Int)=gt k.e (gt (Xy b.e.length es) (i:Int)):=fun i hi=>by
  rw[←h2]
  simp only[QY,ovM]
  rw[Xi (by have:=hr.ok.le;simp only[ovM] at this;omega)]
 have l1:=hm.ln
 have l2:=hm.le
 have l3:=hn.ln
 have l4:=hn.le
 constructor
 ·intro e
  refine⟨fun i hi=>?_,fun i hi=>?_⟩
  ·have e1:=QbR e (i:=i) (by omega) (by omega)
   obtain⟨u,hu,hu2⟩:=gtI (hm.nd i hi).1
   obtain⟨v,hv,hv2⟩:=gtI (hn.nd i hi).1
   rw[hu2,hv2,rn u hu,qn v hv] at e1
   have r1:=(ho.ok.nd u hu).1
   simp only[idM] at r1
   rw[hnn _ _ hu] at r1
   have r2:=(hr.ok.nd v hv).1
   simp only[ovM] at r2
   obtain⟨w,hw,hw2⟩:=gtI r2
   rw[hw2] at e1
   rw[hu2,hv2,hw2]
   have:=hk.jn u w (by omega) hw e1
   omega
  ·have e1:=QbS e (i:=i) (by omega) (by omega)
   obtain⟨u,hu,hu2⟩:=gtI (hm.ed i hi).1
   obtain⟨v,hv,hv2⟩:=gtI (hn.ed i hi).1
   rw[hu2,hv2,re u hu,qe v hv] at e1
   have r1:=(ho.ok.ed u hu).1
   simp only[idM] at r1
   rw[hnn _ _ hu] at r1
   have r2:=(hr.ok.ed v hv).1
   simp only[ovM] at r2
   obtain⟨w,hw,hw2⟩:=gtI r2
   rw[hw2] at e1
   rw[hu2,hv2,hw2]
   have:=hk.je u w (by omega) hw e1
   omega
 ·rintro⟨h3,h4⟩
  refine JF (Yd (by simp only[QY,Xp];omega) fun i hi=>?_) (Yd (by simp only[QY,Xp];omega) fun i hi=>?_)
  ·simp only[QY,Xp] at hi ⊢
   rw[Xi hi,Xi (by omega)]
   have e1:=h3 i (by omega)
   obtain⟨u,hu,hu2⟩:=gtI (hm.nd i (by omega)).1
   obtain⟨v,hv,hv2⟩:=gtI (hn.nd i (by omega)).1
   rw[hu2,hv2] at e1 ⊢
   rw[rn u hu,qn v hv,←e1]
  ·simp only[QY,Xp] at hi ⊢
   rw[Xi hi,Xi (by omega)]
   have e1:=h4 i (by omega)
   obtain⟨u,hu,hu2⟩:=gtI (hm.ed i (by omega)).1
   obtain⟨v,hv,hv2⟩:=gtI (hn.ed i (by omega)).1
   rw[hu2,hv2] at e1 ⊢
   rw[re u hu,qe v hv,←e1]
end
end Go.Am
