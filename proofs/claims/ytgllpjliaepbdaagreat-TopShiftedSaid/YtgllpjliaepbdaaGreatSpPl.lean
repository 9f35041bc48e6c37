/- Structural rules of descriptions. -/
import Derived.Test.YtgllpjliaepbdaaGreatSpPa
import Derived.Test.YtgllpjliaepbdaaGreatSpPb
import Derived.Test.YtgllpjliaepbdaaGreatSpPc
import Derived.Test.YtgllpjliaepbdaaGreatSpPd
import Derived.Test.YtgllpjliaepbdaaGreatSpPe
import Derived.Test.YtgllpjliaepbdaaGreatSpPf
import Derived.Test.YtgllpjliaepbdaaGreatSpPg
import Derived.Test.YtgllpjliaepbdaaGreatSpPh
import Derived.Test.YtgllpjliaepbdaaGreatSpPi
import Derived.Test.YtgllpjliaepbdaaGreatSpPj
import Derived.Test.YtgllpjliaepbdaaGreatSpPk
namespace Go.Am
open Go
set_option linter.unusedVariables false
set_option linter.unusedSimpArgs false
attribute [local irreducible] W
def QNJ:LL:=[qB 4 0,qB 5 1,qB 6 2,qB 7 3,
 qQp 8 (.alloc [.str (bs []),.nl 1,.nl 3,.nl 4,.int .i64 (0),.nl 5,.nl 1,.nl 3,.nl 4,.int .i64 (0),.nl 5,.nl 1,.nl 1,.nl 1,.nl 1,.bool false,.int .i64 (0),.nl 9,.nl 1,.nl 1,.nl 1,.nl 3,.nl 4,.int .i64 (0),.nl 5])]
def QNK:LL:=[qL 9 2 4,qu 10 [.nl 1,.nl 3,.nl 4,.int .i64 (0),.nl 5] [(0,2,.t 9)],qL 11 2 5,qu 12 [.nl 1,.nl 3,.nl 4,.int .i64 (0),.nl 5] [(0,2,.t 11)],qL 13 2 6,qL 14 2 7,
 qQp 15 (.build [.str (bs []),.nl 1,.nl 3,.nl 4,.int .i64 (0),.nl 5,.nl 1,.nl 3,.nl 4,.int .i64 (0),.nl 5,.nl 1,.nl 1,.nl 1,.nl 1,.bool false,.int .i64 (0),.nl 9,.nl 1,.nl 1,.nl 1,.nl 3,.nl 4,.int .i64 (0),.nl 5] [(1,5,.t 10),(6,5,.t 12),(11,2,.t 13),(13,2,.t 14),(15,1,.k (.bool true))]),
 qs 25 8 15]
def Qfy(F:Fn):LC:=QQ [.reg QNJ [4,5,6,7,8],.reg QNK [8],.ret]
def Q0c:Hints:=hOf [] (Qfy fun _=>0)
def QNL:LL:=[qB 1 0,
 qQp 2 (.alloc [.str (bs []),.nl 1,.nl 3,.nl 4,.int .i64 (0),.nl 5,.nl 1,.nl 3,.nl 4,.int .i64 (0),.nl 5,.nl 1,.nl 1,.nl 1,.nl 1,.bool false,.int .i64 (0),.nl 9,.nl 1,.nl 1,.nl 1,.nl 3,.nl 4,.int .i64 (0),.nl 5])]
def QNM:LL:=[qf 10 0 1,qf 11 0 10,ql 12 1 11,qf 13 0 1,qf 14 0 13,ql 15 1 14,qz 16 15,qQp 17 (.mn [.t 16,.k (.int .i64 (3))]),qQp 18 (.slc 1 (.t 12) none (some (.t 17))),
 qf 19 0 1,qf 20 1 19,ql 21 1 20,qf 22 0 1,qf 23 1 22,ql 24 1 23,qz 25 24,qQp 26 (.mn [.t 25,.k (.int .i64 (3))]),qQp 27 (.slc 3 (.t 21) none (some (.t 26))),
 qu 28 [.nl 1,.nl 3] [(0,1,.t 18),(1,1,.t 27)],qf 29 0 1,qs 2 29 28]
def QNN(F:Fn):LL:=[qf 30 0 1,qL 31 2 30,qc 32 (F "aa") [.t 31],qa 3 [.nl 1,.nl 3],qs 2 3 32]
def QNO(F:Fn):LL:=[qL 33 2 3,qf 34 2 1,ql 35 1 34,qc 36 (F "ae") [.t 33,.t 35],qa 4 [.nl 1,.nl 1],qs 2 4 36]
def QNP(F:Fn):LL:=[qL 38 2 3,qL 39 2 4,qc 40 (F "C") [.t 38,.t 39],qm 37 40,qx 41 37 0,qx 42 37 1,qx 43 37 2,qa 5 [.nl 1,.nl 3],qa 6 [.nl 1,.nl 1],qs 2 5 41,qs 2 6 42,qm 7 43]
def QNQ(F:Fn):LL:=[qL 45 2 5,qQp 46 (.buildSl 1 1 (.int .u8 (0)) 1 [(0,.k (.int .u8 (255)))]),qf 47 3 1,ql 48 1 47,qf 49 3 1,ql 50 1 49,qz 51 50,
 qQp 52 (.mn [.t 51,.k (.int .i64 (6))]),qQp 53 (.slc 1 (.t 48) none (some (.t 52))),qp 54 1 1 46 53,qc 55 (F "bs") [.t 45,.t 54],qm 44 55,qx 56 44 0,qx 57 44 1,
 qa 8 [.nl 1,.nl 3],qa 9 [.nl 1,.nl 1],qs 2 8 56,qs 2 9 57]
def QNR(F:Fn):LL:=[qL 58 2 3,qL 59 2 8,qL 60 2 4,qL 61 2 9,qc 62 (F "bC") [.t 58,.t 59,.t 60,.t 61],qs 25 2 62]
def Qfz(F:Fn):LC:=QQ [.reg QNL [1,2],.dreg [] QNM [1,2],.reg (QNN F) [1,2,3],.reg (QNO F) [1,2,3,4],.reg (QNP F) [1,2,3,4,5],.dreg [(0,none,[],true),(1,none,[0],true),(3,(some 4),[1],false),(5,(some 16),[1],false),(8,(some 252),[1],false),(9,none,[0],false)] (QNQ F) [2,3,4,8,9],.reg (QNR F) [2],.ret]
def Q0d:Hints:=hOf [] (Qfz fun _=>0)
structure Rul where
 d:Dr
 k:Int
 m:List Int
 deriving DecidableEq,Inhabited
def rlD(x:Rul):D:=.agg [.lst 1 (u8s x.d.n),.lst 3 (trs x.d.e),.int .u64 x.k,.lst 1 (u8s x.m)]
def ruX(x:Rul):Dr:=⟨x.d.n.take (min x.d.n.length 3),x.d.e.take (min x.d.e.length 3)⟩
def ruC(x:Rul):List Int:=255::x.m.take (min x.m.length 6)
def ruS(x:Rul):Spn:=⟨Xt (ruX x),grG (ptG (Xt (ruX x)) (X8 (Xt (ruX x)) x.k)) (ruC x),X8 (Xt (ruX x)) x.k,grM (ptG (Xt (ruX x)) (X8 (Xt (ruX x)) x.k)) (ruC x)⟩
structure Rul.ok(x:Rul):Prop where
 d:x.d.ok
 n:x.d.n.length≤QW
 e:x.d.e.length≤QW
 m:x.m.length≤QW
 b:∀v∈x.m,XF v
attribute [go_sem] QNJ QNK Qfy QNL QNM QNN QNO QNP QNQ QNR Qfz
section
variable (P:Program) (F:String→Nat)
def QmS:Prop:=∀s:Spn,FC P (F "bC") [gD s.l,gD s.r,mD s.k,mD s.i] (ruD (bs []) s) []
def QmT:Prop:=∀x:Rul,x.ok→FC P (F "aT") [rlD x] (ruD (bs []) (ruS x)) []
end
section
variable {P:Program} {F:String→Nat} {α:Type}
theorem QNS{x:Rul}(h:x.ok):(ruX x).ok:=⟨fun v hv=>h.d.1 v (QF hv),fun v hv=>h.d.2 v (QF hv)⟩
theorem QNT{x:Rul}(h:x.ok):∀v∈ruC x,XF v:=fun v hv=>by
 rcases Qh.1 hv with rfl|hv
 ·exact⟨by omega,by omega⟩
 ·exact h.b v (QF hv)
theorem QmU(x:Dr):(Xt x).n.length≤x.n.length∧(Xt x).e.length≤x.e.length:=by
 refine⟨by simp [Xt,JE];omega,?_⟩
 simp only[Xt]
 split
 ·simp
 ·simp;omega
theorem Q0e(a:G)(c:List Int):grM a (255::c)=idM a:=by
 unfold grM grB
 rw[if_neg]
 rintro⟨_,h⟩
 have:gt (255::c) 0=255:=rfl
 omega
theorem QNU{x:Rul}(h:x.ok):SpnOk (ruS x)∧(ruS x).l.n.length≤3∧(ruS x).l.e.length≤3:=by
 have hv:=Qq0 (QNS h)
 have hk:=QDr (s:=x.k) hv
 have he:=Qak hk
 have l1:(Xt (ruX x)).n.length≤3:=Qt (QmU (ruX x)).1 (by simp [ruX];omega)
 have l2:(Xt (ruX x)).e.length≤3:=Qt (QmU (ruX x)).2 (by simp [ruX];omega)
 have k1:=QaE hk.n
 have k2:=QaE hk.e
 have la:(ptG (Xt (ruX x)) (X8 (Xt (ruX x)) x.k)).n.length=(X8 (Xt (ruX x)) x.k).n.length:=Xp _ _
 have lb:(ptG (Xt (ruX x)) (X8 (Xt (ruX x)) x.k)).e.length=(X8 (Xt (ruX x)) x.k).e.length:=Je _ _ _
 obtain⟨g1,_,_⟩:=QX5 (a:=ptG (Xt (ruX x)) (X8 (Xt (ruX x)) x.k)) (c:=ruC x) he.ok.va (QNT h) (by omega) (by omega)
 have hi:grM (ptG (Xt (ruX x)) (X8 (Xt (ruX x)) x.k)) (ruC x)=idM (ptG (Xt (ruX x)) (X8 (Xt (ruX x)) x.k)):=Q0e _ _
 have hn:∀g:G,(idM g).n.Nodup∧(idM g).e.Nodup:=fun g=>⟨QhS _,QhS _⟩
 have hE:=Emb.mk' g1 (by rw[hi];exact (hn _).1) (by rw[hi];exact (hn _).2)
 exact⟨⟨hk,hE⟩,l1,l2⟩
theorem Q0f(s:Spn):W P (Qfy F) (DoneZ [.c 8 true 25] [] (ruD (bs []) s) []) (init [gD s.l,gD s.r,mD s.k,mD s.i]):=by
 refine ZH ?_
 obtain⟨⟨ln,le⟩,⟨rn,re⟩,⟨kn,ke⟩,⟨i_n,i_e⟩⟩:=s
 simp only[gD,mD]
 simp(disch:=omega)only[go_sem]
 rfl
theorem Q0g(hm:QdS P F)(hp:QeG P F)(hx:QcR P F)(hg:Qkf P F)(ho:QmS P F)(x:Rul)(h:x.ok):W P (Qfz F) (DoneZ [.c 2 true 25] [] (ruD (bs []) (ruS x)) []) (init [rlD x]):=by
 refine ZH ?_
 obtain⟨hs,l1,l2⟩:=QNU h
 have h1:=h.n
 have h2:=h.e
 have h3:=h.m
 have r1:=hm (ruX x) (QNS h) (by simp [ruX];omega) (by simp [ruX];omega)
 have r2:=hp (Xt (ruX x)) x.k hs.k.v
 have hk:PK (Xt (ruX x)) (X8 (Xt (ruX x)) x.k):=hs.k
 have r3:=hx (Xt (ruX x)) (X8 (Xt (ruX x)) x.k) hk.sm
 have ek:exR (Xt (ruX x)) (X8 (Xt (ruX x)) x.k)=(ptG (Xt (ruX x)) (X8 (Xt (ruX x)) x.k),X8 (Xt (ruX x)) x.k,0):=by unfold exR;rw[if_neg (by simp [validP_ok.2 hk])]
 rw[ek] at r3
 have r4:=hg (ptG (Xt (ruX x)) (X8 (Xt (ruX x)) x.k)) (ruC x) (Qak hk).ok.va (by simp [ruC];omega) (QNT h)
 have r5:=ho (ruS x)
 have m1:=QmR x.d.n.length 3
 have m2:=QmR x.d.e.length 3
 have m3:=QmR x.m.length 6
 have hC:u8s (ruC x)=[.int .u8 255]++u8s (x.m.take (min x.m.length 6)):=rfl
 rw[hC] at r4
 have hX:drD (ruX x)=.agg [.lst 1 (u8s (x.d.n.take (min x.d.n.length 3))),.lst 3 (trs (x.d.e.take (min x.d.e.length 3)))]:=rfl
 rw[hX] at r1
 have hS:ruS x=⟨Xt (ruX x),grG (ptG (Xt (ruX x)) (X8 (Xt (ruX x)) x.k)) (ruC x),X8 (Xt (ruX x)) x.k,grM (ptG (Xt (ruX x)) (X8 (Xt (ruX x)) x.k)) (ruC x)⟩:=rfl
 rw[hS] at r5 ⊢
 clear hX hC hS ek hk hs hm hp hx hg ho l1 l2 h
 generalize grM _ _=i at*
 generalize grG _ _=r at*
 generalize X8 _ _=k at*
 generalize ptG _ _=kg at*
 generalize Xt _=l at*
 obtain⟨⟨xn,xe⟩,xk,xm⟩:=x
 obtain⟨ln,le⟩:=l
 obtain⟨kgn,kge⟩:=kg
 obtain⟨kn,ke⟩:=k
 obtain⟨rn,re⟩:=r
 obtain⟨i_n,i_e⟩:=i
 unfold QW at h1 h2 h3
 simp only[rlD,ruD,gD,gA,mD,mA,Int.cast_ofNat_Int,Qaf,QbD] at*
 have q6:(List.take (min xm.length 6) xm).length≤6:=by rw[Qj];omega
 simp(disch:=omega)only[go_sem,m1,m2,Qaf,QbD,QmQ,QNI]
 refine QT r1 ?_
 simp(disch:=omega)only[go_sem]
 refine QT r2 ?_
 simp(disch:=omega)only[go_sem]
 refine QT r3 ?_
 simp(disch:=omega)only[go_sem,m3,Qaf,QmQ]
 refine QT r4 ?_
 simp(disch:=omega)only[go_sem]
 refine QT r5 ?_
 simp(disch:=omega)only[go_sem]
 rfl
end
def QNV:LL:=[qb 0 false]
def QNW:LL:=[qQp 10 (.buildSl 1 8 (.int .i64 (0)) 2 [(0,.k (.int .i64 (0))),(1,.k (.int .i64 (0)))]),qu 11 [.nl 1,.nl 3] [(0,1,.t 10)],
 qu 12 [.nl 1,.nl 3,.nl 4,.int .i64 (0),.nl 5] [(0,2,.t 11)],qQp 13 (.buildSl 1 8 (.int .i64 (0)) 1 [(0,.k (.int .i64 (0)))]),qu 14 [.nl 1,.nl 3] [(0,1,.t 13)],
 qu 15 [.nl 1,.nl 3,.nl 4,.int .i64 (0),.nl 5] [(0,2,.t 14)],qQp 16 (.buildSl 1 8 (.int .i64 (0)) 1 [(0,.k (.int .i64 (0)))]),qu 17 [.nl 1,.nl 1] [(0,1,.t 16)],
 qQp 18 (.buildSl 1 8 (.int .i64 (0)) 1 [(0,.k (.int .i64 (0)))]),qu 19 [.nl 1,.nl 1] [(0,1,.t 18)],
 qQp 20 (.build [.str (bs []),.nl 1,.nl 3,.nl 4,.int .i64 (0),.nl 5,.nl 1,.nl 3,.nl 4,.int .i64 (0),.nl 5,.nl 1,.nl 1,.nl 1,.nl 1,.bool false,.int .i64 (0),.nl 9,.nl 1,.nl 1,.nl 1,.nl 3,.nl 4,.int .i64 (0),.nl 5] [(0,1,.k (.str (bs [114]))),(1,5,.t 12),(6,5,.t 15),(11,2,.t 17),(13,2,.t 19),(15,1,.k (.bool true))]),
 qQp 1 (.alloc [.str (bs []),.nl 1,.nl 3,.nl 4,.int .i64 (0),.nl 5,.nl 1,.nl 3,.nl 4,.int .i64 (0),.nl 5,.nl 1,.nl 1,.nl 1,.nl 1,.bool false,.int .i64 (0),.nl 9,.nl 1,.nl 1,.nl 1,.nl 3,.nl 4,.int .i64 (0),.nl 5]),
 qs 25 1 20]
def QNX:LL:=[qQp 21 (.buildSl 1 8 (.int .i64 (0)) 1 [(0,.k (.int .i64 (0)))]),qu 22 [.nl 1,.nl 1] [(0,1,.t 21)],
 qQp 23 (.buildSl 1 8 (.int .i64 (0)) 2 [(0,.k (.int .i64 (0))),(1,.k (.int .i64 (0)))]),qu 24 [.nl 1,.nl 3] [(0,1,.t 23)],
 qu 25 [.nl 1,.nl 3,.nl 4,.int .i64 (0),.nl 5] [(0,2,.t 24)],qu 26 [.int .i64 (0),.nl 9,.nl 1,.nl 1,.nl 1,.nl 3,.nl 4,.int .i64 (0),.nl 5] [(0,1,.k (.int .i64 (1)))],
 qQp 27 (.buildSl 9 184 (.agg [.int .i64 (0),.lst 9 [],.lst 1 [],.lst 1 [],.lst 1 [],.lst 3 [],.lst 4 [],.int .i64 (0),.lst 5 []]) 1 [(0,.t 26)]),
 qu 28 [.int .i64 (0),.nl 9,.nl 1,.nl 1,.nl 1,.nl 3,.nl 4,.int .i64 (0),.nl 5] [(0,1,.k (.int .i64 (5))),(2,2,.t 22),(4,5,.t 25),(1,1,.t 27)],
 qa 2 [.int .i64 (0),.nl 9,.nl 1,.nl 1,.nl 1,.nl 3,.nl 4,.int .i64 (0),.nl 5],qs 9 2 28]
def QNY(F:Fn):LL:=[qL 30 25 1,qL 31 9 2,qc 32 (F "q") [.t 30,.t 31],qm 29 32,qx 33 29 0,qx 34 29 1,qa 3 [.int .i64 (0),.nl 9,.nl 1,.nl 1,.nl 1,.nl 3,.nl 4,.int .i64 (0),.nl 5],qs 9 3 33,qm 4 34]
def QNZ:LL:=[qQp 35 (.buildSl 1 8 (.int .i64 (0)) 2 [(0,.k (.int .i64 (0))),(1,.k (.int .i64 (1)))]),qu 36 [.nl 1,.nl 1] [(0,1,.t 35)],qa 5 [.nl 1,.nl 1],qs 2 5 36]
def QN0(F:Fn):LL:=[qf 38 1 1,qf 39 0 38,qL 40 2 39,qL 41 9 3,qQp 42 (.buildSl 1 8 (.int .i64 (0)) 3 [(0,.k (.int .i64 (0))),(1,.k (.int .i64 (0))),(2,.k (.int .i64 (0)))]),
 qu 43 [.nl 1,.nl 3] [(0,1,.t 42)],qL 44 2 5,qc 45 (F "j") [.t 40,.t 41,.t 43,.t 44],qm 37 45,qx 46 37 0,qx 47 37 1,qm 6 46,qm 7 47]
def QN1(F:Fn):LL:=[qf 49 1 1,qf 50 0 49,qL 51 2 50,qL 52 9 3,qQp 53 (.buildSl 1 8 (.int .i64 (0)) 2 [(0,.k (.int .i64 (0))),(1,.k (.int .i64 (0)))]),qu 54 [.nl 1,.nl 3] [(0,1,.t 53)],
 qL 55 2 5,qc 56 (F "j") [.t 51,.t 52,.t 54,.t 55],qm 48 56,qx 57 48 0,qx 58 48 1,qm 8 57,qm 9 58]
def QN2:LL:=[qm 59 4,qk .eql 60 59 0,qm 61 60,qg 61 true (qm 62 7),qg 61 true (qk .eql 63 62 0),qP 64 61 63,qm 65 64,qg 65 true (qm 66 9),qg 65 true (qk .eql 67 66 0),qP 68 65 67,qm 69 68,
 qg 69 true (qm 70 6),qP 71 69 70,qm 72 71,qg 72 true (qm 73 8),qg 72 true (qv 74 73),qP 75 72 74,qm 0 75]
def QmV(F:Fn):LC:=QQ [.reg QNV [],.reg QNW [1],.reg QNX [1,2],.reg (QNY F) [1,3,4],.reg QNZ [1,3,4,5],.reg (QN0 F) [1,3,4,5,6,7],.reg (QN1 F) [4,6,7,8,9],.reg QN2 [0],.ret]
def QN3:LL:=[qB 3 0,qB 4 1,qB 5 2,qa 6 [.nl 1,.nl 3],qa 7 [.nl 1,.nl 1],qb 8 false]
def QN4(F:Fn):LL:=[qf 26 1 3,qf 27 0 26,qL 28 2 27,qL 29 2 4,qf 30 11 3,qL 31 2 30,qL 32 2 5,qc 33 (F "bV") [.t 28,.t 29,.t 31,.t 32],qm 25 33,qx 34 25 0,qx 35 25 1,qa 9 [.nl 1,.nl 1],qs 2 9 34,
 qm 10 35]
def QN5:LL:=[qm 36 10,qk .neq 37 36 0]
def QN6:LL:=[qu 38 [.nl 1,.nl 3] [],qu 39 [.nl 1,.nl 1] [],qs 2 6 38,qs 2 7 39,qb 8 false]
def QN7(F:Fn):LL:=[qL 41 2 4,qL 42 2 9,qc 43 (F "C") [.t 41,.t 42],qm 40 43,qx 44 40 0,qx 45 40 1,qx 46 40 2,qa 11 [.nl 1,.nl 3],qa 12 [.nl 1,.nl 1],qs 2 11 44,qs 2 12 45,qm 13 46]
def QN8(F:Fn):LL:=[qf 48 1 3,qf 49 0 48,qL 50 2 49,qf 51 11 3,qL 52 2 51,qc 53 (F "C") [.t 50,.t 52],qm 47 53,qx 54 47 0,qx 55 47 1,qx 56 47 2,qa 14 [.nl 1,.nl 3],qa 15 [.nl 1,.nl 1],qs 2 14 54,
 qs 2 15 55,qm 16 56]
def QN9:LL:=[qa 17 [.nl 1,.nl 1]]
def QOa:LL:=[qf 57 0 15,ql 58 1 57,qz 59 58,qi 60 0]
def QOb:LL:=[qo .lss 61 60 59]
def QOc:LL:=[qd 62 1 58 60,ql 63 1 62,qm 19 63]
def QOd(F:Fn):LL:=[qf 64 0 17,ql 65 1 64,qf 66 0 12,ql 67 1 66,qf 68 0 5,ql 69 1 68,qm 70 19,qd 71 1 69 70,ql 72 1 71,qc 73 (F "p") [.t 67,.t 72],
 qQp 74 (.buildSl 1 8 (.int .i64 (0)) 1 [(0,.t 73)]),qp 75 1 8 65 74,qf 76 0 17,qs 1 76 75]
def QOe:LL:=[qk .add 77 60 1,qm 60 77]
def QmW(F:Fn):LC:=QQ [.reg QOb [3,5,6,7,11,12,14,15,17,58,59,60,61],.cond (.t 61) .skip (.exit 0),.block 1 (QQ [.reg QOc [3,5,6,7,11,12,14,15,17,19,58,59,60],.dreg [(1,none,[],true),(9,none,[1],false),(10,none,[1],false)] (QOd F) [3,5,6,7,11,12,14,15,17,58,59,60]]),.reg QOe [3,5,6,7,11,12,14,15,17,58,59,60]]
def QOf:LL:=[qf 78 1 15,ql 79 1 78,qz 80 79,qi 81 0]
def QOg:LL:=[qo .lss 82 81 80]
def QOh:LL:=[qd 83 1 79 81,ql 84 1 83,qm 21 84]
def QOi(F:Fn):LL:=[qf 85 1 17,ql 86 1 85,qf 87 1 12,ql 88 1 87,qf 89 1 5,ql 90 1 89,qm 91 21,qd 92 1 90 91,ql 93 1 92,qc 94 (F "p") [.t 88,.t 93],
 qQp 95 (.buildSl 1 8 (.int .i64 (0)) 1 [(0,.t 94)]),qp 96 1 8 86 95,qf 97 1 17,qs 1 97 96]
def QOj:LL:=[qk .add 98 81 1,qm 81 98]
def QmX(F:Fn):LC:=QQ [.reg QOg [3,5,6,7,11,12,14,17,79,80,81,82],.cond (.t 82) .skip (.exit 2),.block 3 (QQ [.reg QOh [3,5,6,7,11,12,14,17,21,79,80,81],.dreg [(1,none,[],true),(9,none,[1],false),(10,none,[1],false)] (QOi F) [3,5,6,7,11,12,14,17,79,80,81]]),.reg QOj [3,5,6,7,11,12,14,17,79,80,81]]
def QOl(F:Fn):LL:=[qL 100 2 14,qf 101 6 3,qf 102 0 101,qL 103 2 102,qL 104 2 11,qf 105 13 3,qL 106 2 105,qL 107 2 17,
 qu 108 [.nl 1,.nl 3,.nl 1,.nl 3,.nl 1,.nl 3,.nl 1,.nl 1,.nl 1,.nl 1] [(0,2,.t 100),(2,2,.t 103),(4,2,.t 104),(6,2,.t 106),(8,2,.t 107)],qc 109 (F "bx") [.t 108],
 qm 99 109,qx 110 99 0,qx 111 99 1,qx 112 99 2,qx 113 99 3,qa 22 [.nl 1,.nl 3],qa 23 [.nl 1,.nl 1],qa 24 [.nl 1,.nl 1],qs 2 22 110,qs 2 23 111,qs 2 24 112,qm 10 113]
def QOm:LL:=[qL 114 2 22,qL 115 2 23,qm 116 10,qk .eql 117 116 0,qs 2 6 114,qs 2 7 115,qm 8 117]
def QmY(F:Fn):LC:=QQ [.reg QN3 [3,4,5,6,7],.reg (QN4 F) [3,4,5,6,7,9,10],QQ [.reg QN5 [3,4,5,6,7,9,37],.cond (.t 37) (QQ [.reg QN6 [6,7,8],.ret]) .skip],.reg (QN7 F) [3,5,6,7,11,12],.reg (QN8 F) [3,5,6,7,11,12,14,15],.reg QN9 [3,5,6,7,11,12,14,15,17],QQ [.reg QOa [3,5,6,7,11,12,14,15,17,58,59,60],.block 0 (.loop [3,5,6,7,11,12,14,15,17,58,59,60] (QmW F))],QQ [.reg QOf [3,5,6,7,11,12,14,17,79,80,81],.block 2 (.loop [3,5,6,7,11,12,14,17,79,80,81] (QmX F))],.reg (QOl F) [6,7,10,22,23],.dreg [(1,none,[],true),(4,none,[1],false)] QOm [6,7,8],.ret]
attribute [go_sem] QNV QNW QNX QNY QNZ QN0 QN1 QN2 QmV QN3 QN4 QN5 QN6 QN7 QN8 QN9 QOa QOb QOc QOd QOe QOf QOg QOh QOi QOj QOl QOm QmY
section
variable (P:Program) (F:String→Nat)
def QmZ:Prop:=FC P (F "T") [] (.bool true) []
def Qm0:Prop:=∀(nm:ByteArray)(s:Spn)(g:G)(q:Mo),SpnOk s→Emb s.l g q→FC P (F "bG") [ruD nm s,gD g,mD q] (.tup [gA (bhR s g q).1,mA (bhR s g q).2.1,.bool (bhR s g q).2.2]) []
end
section
variable {P:Program} {F:String→Nat} {α:Type}
def aw34S:Spn:=⟨⟨[0,0],[]⟩,⟨[0],[]⟩,⟨[0],[]⟩,⟨[0],[]⟩⟩
def Qca:Cnd:=.ex ⟨[0],[]⟩ ⟨[0,0],[]⟩ .tt
theorem Q0h:SpnOk aw34S:=⟨validP_ok.1 (by decide+kernel),Emb.mk' (mok.1 (by decide+kernel)) (by decide+kernel) (by decide+kernel)⟩
theorem Q0i:Q3 aw34S.r Qca:=by
 simp only[Qca,Q3,and_true]
 exact Emb.mk' (mok.1 (by decide+kernel)) (by decide+kernel) (by decide+kernel)
def JN:Cnd:=.ex ⟨[0,1],[]⟩ ⟨[0,0,0],[]⟩ .tt
theorem Q0j:Z2 aw34S Qca=(JN,0):=by rfl
theorem Q0k(hl:Qfw P F)(hs:Qfn P F):W P (QmV F) (Done [.t 0] [] (.bool true) []) (init []):=by
 refine QZ ?_
 have cC:cnD Qca=.agg [.int .i64 5,.lst 9 [.agg [.int .i64 1,.lst 9 [],.lst 1 [],.lst 1 [],.lst 1 [],.lst 3 [],.lst 4 [],.int .i64 0,.lst 5 []]],.lst 1 [.int .i64 0],.lst 1 [],.lst 1 [.int .i64 0,.int .i64 0],.lst 3 [],.lst 4 [],.int .i64 0,.lst 5 []]:=by rw[Q4,←Qc9];rfl
 have cL:cnD JN=.agg [.int .i64 5,.lst 9 [.agg [.int .i64 1,.lst 9 [],.lst 1 [],.lst 1 [],.lst 1 [],.lst 3 [],.lst 4 [],.int .i64 0,.lst 5 []]],.lst 1 [.int .i64 0,.int .i64 1],.lst 1 [],.lst 1 [.int .i64 0,.int .i64 0,.int .i64 0],.lst 3 [],.lst 4 [],.int .i64 0,.lst 5 []]:=by rw[Q4,←Qc9];rfl
 have r1:=hl (bs [114]) Qca aw34S (by decide+kernel) Q0i Q0h
 rw[Q0j] at r1
 have r1:FC P (F "q") [.agg [.str (bs [114]),.lst 1 [.int .i64 0,.int .i64 0],.lst 3 [],.lst 4 [],.int .i64 0,.lst 5 [],.lst 1 [.int .i64 0],.lst 3 [],.lst 4 [],.int .i64 0,.lst 5 [],.lst 1 [.int .i64 0],.lst 1 [],.lst 1 [.int .i64 0],.lst 1 [],.bool true,.int .i64 0,.lst 9 [],.lst 1 [],.lst 1 [],.lst 1 [],.lst 3 [],.lst 4 [],.int .i64 0,.lst 5 []],cnD Qca] (.tup [cnD JN,.int .i64 0]) []:=r1
 rw[cC,cL] at r1
 have ho:Q3 aw34S.l JN:=by
  simp only[JN,Q3,and_true]
  exact Emb.mk' (mok.1 (by decide+kernel)) (by decide+kernel) (by decide+kernel)
 have r2:=hs aw34S.l JN ⟨[0,0,0],[]⟩ ⟨[0,1],[]⟩ (by decide+kernel) (by decide+kernel) ho (Emb.mk' (mok.1 (by decide+kernel)) (by decide+kernel) (by decide+kernel))
 have r3:=hs aw34S.l JN ⟨[0,0],[]⟩ ⟨[0,1],[]⟩ (by decide+kernel) (by decide+kernel) ho (Emb.mk' (mok.1 (by decide+kernel)) (by decide+kernel) (by decide+kernel))
 rw[show XA ⟨[0,0,0],[]⟩ JN ⟨[0,1],[]⟩=true by rfl] at r2
 rw[show XA ⟨[0,0],[]⟩ JN ⟨[0,1],[]⟩=false by rfl] at r3
 have r2:FC P (F "j") [.agg [.lst 1 [.int .i64 0,.int .i64 0],.lst 3 []],cnD JN,.agg [.lst 1 [.int .i64 0,.int .i64 0,.int .i64 0],.lst 3 []],.agg [.lst 1 [.int .i64 0,.int .i64 1],.lst 1 []]] (.tup [.bool true,.int .i64 0]) []:=r2
 have r3:FC P (F "j") [.agg [.lst 1 [.int .i64 0,.int .i64 0],.lst 3 []],cnD JN,.agg [.lst 1 [.int .i64 0,.int .i64 0],.lst 3 []],.agg [.lst 1 [.int .i64 0,.int .i64 1],.lst 1 []]] (.tup [.bool false,.int .i64 0]) []:=r3
 rw[cL] at r2 r3
 have d0:decide ((0:Int)=0)=true:=rfl
 simp(disch:=omega)only[go_sem]
 refine QT r1 ?_
 simp(disch:=omega)only[go_sem]
 refine QT r2 ?_
 simp(disch:=omega)only[go_sem]
 refine QT r3 ?_
 simp(disch:=omega)only[go_sem,d0]
theorem Q0l(ho:Qj9 P F)(hx:QcR P F)(hi:QbB P F)(hp:Qje P F)(nm:ByteArray)(s:Spn)(g:G)(q:Mo)(hs:SpnOk s)(hq:Emb s.l g q):W P (QmY F) (Done [.c 6 true 2,.c 7 true 2,.t 8] [] (.tup [gA (bhR s g q).1,mA (bhR s g q).2.1,.bool (bhR s g q).2.2]) []) (init [ruD nm s,gD g,mD q]):=by
 refine QZ ?_
 have d0:decide ((0:Int)=0)=true:=rfl
 have r1:=ho (bhC s g q) ⟨by have:=hs.k.sm;exact this.1,by have:=hs.k.sm;exact this.2⟩
 by_cases h0:(cxR (bhC s g q)).2=0
 case neg=>
  have e:bhR s g q=(g0,m0,false):=by unfold bhR;rw[if_pos h0]
  rw[e]
  have d1:decide ((cxR (bhC s g q)).2=0)=false:=Qc h0
  clear e h0 ho hx hi hp hs hq
  generalize cxR (bhC s g q)=R at*
  obtain⟨⟨zn,ze⟩,er⟩:=R
  simp only[bhC] at r1
  obtain⟨⟨ln,le⟩,⟨rn,re⟩,⟨kn,ke⟩,⟨i_n,i_e⟩⟩:=s
  obtain⟨gn,ge⟩:=g
  obtain⟨qn,qe⟩:=q
  simp only[ruD,gD,mD,gA,mA] at*
  simp(disch:=omega)only[go_sem]
  refine QT r1 ?_
  simp(disch:=omega)only[go_sem,d1]
  rfl
 have e:bhR s g q=((poR (bhS s g q)).1,(poR (bhS s g q)).2.1,decide ((poR (bhS s g q)).2.2.2=0)):=by unfold bhR;rw[if_neg (by simp [h0])]
 rw[e]
 have e1:XE (bhC s g q).l (bhC s g q).g (bhC s g q).m=0:=mok.2 hq.ok
 have e2:Yf (bhC s g q).l (bhC s g q).k=0:=validP_ok.2 hs.k
 have e0:cxE (bhC s g q)=0:=by
  unfold cxE
  rw[if_neg (Qo.2 e1)]
  exact e2
 obtain⟨z1,z2,z3⟩:=(QDv e0).1 h0
 have hP:(cxR (bhC s g q)).1=cxP (bhC s g q):=by
  unfold cxR
  rw[if_neg (by simp [e0]),z1,z2,z3]
  rfl
 have hzk:PK g (cxP (bhC s g q)):=QeN e0 z1 z2 z3
 have ek:exR s.l s.k=(ptG s.l s.k,s.k,0):=by unfold exR;rw[if_neg (by simp [validP_ok.2 hs.k])]
 have ep:exR g (cxP (bhC s g q))=(ptG g (cxP (bhC s g q)),cxP (bhC s g q),0):=by unfold exR;rw[if_neg (by simp [validP_ok.2 hzk])]
 have r2:=hx g (cxP (bhC s g q)) hzk.sm
 have r3:=hx s.l s.k hs.k.sm
 rw[ek] at r3
 rw[ep] at r2
 have hS:bhS s g q=⟨ptG s.l s.k,s.r,ptG g (cxP (bhC s g q)),s.i,⟨toL q.n s.k.n (cxP (bhC s g q)).n,toL q.e s.k.e (cxP (bhC s g q)).e⟩⟩:=by unfold bhS;rw[hP];rfl
 have r4:=hp (bhS s g q)
 rw[hS] at r4 ⊢
 rw[h0,hP] at r1
 have lz:=hzk.len
 have ri:=fun v=>hi (cxP (bhC s g q)).n v (by unfold QW;omega)
 have rj:=fun v=>hi (cxP (bhC s g q)).e v (by unfold QW;omega)
 have l1:=hq.ok.ln
 have l2:=hq.ok.le
 have k1:=hs.k.len
 have hb1:=hs.k.n.b
 have hb2:=hs.k.e.b
 clear e e0 e1 e2 z1 z2 z3 hP hzk ek ep hS h0 ho hx hi hp hs hq
 generalize hpo:poR _=R at*
 clear hpo
 simp only[bhC] at*
 generalize cxP _=z at*
 generalize ptG g z=pg at*
 generalize ptG s.l s.k=pk at*
 obtain⟨⟨rgn,rge⟩,⟨rpn,rpe⟩,⟨rqn,rqe⟩,er⟩:=R
 obtain⟨⟨ln,le⟩,⟨rn,re⟩,⟨kn,ke⟩,⟨i_n,i_e⟩⟩:=s
 obtain⟨gn,ge⟩:=g
 obtain⟨qn,qe⟩:=q
 obtain⟨zn,ze⟩:=z
 obtain⟨pgn,pge⟩:=pg
 obtain⟨pkn,pke⟩:=pk
 simp only[ruD,gD,mD,gA,mA,spD,poD] at*
 simp(disch:=omega)only[go_sem]
 refine QT r1 ?_
 simp(disch:=omega)only[go_sem,d0]
 refine QT r2 ?_
 simp(disch:=omega)only[go_sem]
 refine QT r3 ?_
 simp(disch:=omega)only[go_sem]
 refine Q5 (fun i:Nat=>⟨[(3,.pt 0 0),(5,.pt 1 0),(6,.pt 4 0),(7,.pt 7 0),(11,.pt 10 0),(12,.pt 13 0),(14,.pt 16 0),(15,.pt 19 0),(17,.pt 22 0),(58,.sl 17 0 kn.length),(59,.int .i64 kn.length),(60,.int .i64 i)],
   [(0,.box [.str nm,.lst 1 (QR ln),.lst 3 (eds le),.lst 4 [],.int .i64 0,.lst 5 [],.lst 1 (QR rn),.lst 3 (eds re),.lst 4 [],.int .i64 0,.lst 5 [],.lst 1 (QR kn),.lst 1 (QR ke),.lst 1 (QR i_n),.lst 1 (QR i_e),.bool true,.int .i64 0,.lst 9 [],.lst 1 [],.lst 1 [],.lst 1 [],.lst 3 [],.lst 4 [],.int .i64 0,.lst 5 []]),
   (1,.box [.lst 1 (QR qn),.lst 1 (QR qe)]),(2,.arr 1 []),(3,.arr 3 []),(4,.box [.sl 2 0 0,.sl 3 0 0]),(5,.arr 1 []),(6,.arr 1 []),(7,.box [.sl 5 0 0,.sl 6 0 0]),
   (8,.arr 1 (QR pgn)),(9,.arr 3 (eds pge)),(10,.box [.sl 8 0 pgn.length,.sl 9 0 pge.length]),(11,.arr 1 (QR zn)),(12,.arr 1 (QR ze)),(13,.box [.sl 11 0 zn.length,.sl 12 0 ze.length]),
   (14,.arr 1 (QR pkn)),(15,.arr 3 (eds pke)),(16,.box [.sl 14 0 pkn.length,.sl 15 0 pke.length]),(17,.arr 1 (QR kn)),(18,.arr 1 (QR ke)),(19,.box [.sl 17 0 kn.length,.sl 18 0 ke.length]),
   (20,.arr 1 (QR (toL qn (kn.take i) zn))),(21,.arr 1 []),(22,.box [.sl 20 0 i,.sl 21 0 0])],23⟩) (fun i=>i≤kn.length) (fun i=>kn.length-i) 0 ?_ ?_ ?_
 ·simp(disch:=omega)only[go_sem]
  rfl
 ·omega
 ·intro i hi
  have tl:(toL qn (kn.take i) zn).length=i:=by rw[QcU,Qj];omega
  by_cases e:i<kn.length
  ·have g1:decide ((i:Int)<kn.length)=true:=Qd (by omega)
   have hbx:=hb1 _ (gt_mem (l:=kn) (j:=(i:Int)) (by omega) (by omega))
   have hst:=QFa (im:=qn) (pl:=zn) e
   have rx:=ri (gt qn (gt kn i))
   have za:=YI (l:=kn) e
   have zb:=Zp (l:=qn) (j:=gt kn (i:Int)) hbx.1 (by omega)
   simp(disch:=omega)only[go_sem,QmW,g1,tl,za,zb]
   refine QT rx ?_
   simp(disch:=omega)only[go_sem,tl]
   exact⟨i+1,by simp [hst],by omega,by omega⟩
  ·have g1:decide ((i:Int)<kn.length)=false:=Qc (by omega)
   obtain rfl:i=kn.length:=by omega
   rw[List.take_length] at tl
   simp(disch:=omega)only[go_sem,QmW,g1,tl]
   refine Q5 (fun i:Nat=>⟨[(3,.pt 0 0),(5,.pt 1 0),(6,.pt 4 0),(7,.pt 7 0),(11,.pt 10 0),(12,.pt 13 0),(14,.pt 16 0),(17,.pt 19 0),(79,.sl 20 0 ke.length),(80,.int .i64 ke.length),(81,.int .i64 i)],
     [(0,.box [.str nm,.lst 1 (QR ln),.lst 3 (eds le),.lst 4 [],.int .i64 0,.lst 5 [],.lst 1 (QR rn),.lst 3 (eds re),.lst 4 [],.int .i64 0,.lst 5 [],.lst 1 (QR kn),.lst 1 (QR ke),.lst 1 (QR i_n),.lst 1 (QR i_e),.bool true,.int .i64 0,.lst 9 [],.lst 1 [],.lst 1 [],.lst 1 [],.lst 3 [],.lst 4 [],.int .i64 0,.lst 5 []]),
   (1,.box [.lst 1 (QR qn),.lst 1 (QR qe)]),(2,.arr 1 []),(3,.arr 3 []),(4,.box [.sl 2 0 0,.sl 3 0 0]),(5,.arr 1 []),(6,.arr 1 []),(7,.box [.sl 5 0 0,.sl 6 0 0]),
   (8,.arr 1 (QR pgn)),(9,.arr 3 (eds pge)),(10,.box [.sl 8 0 pgn.length,.sl 9 0 pge.length]),(11,.arr 1 (QR zn)),(12,.arr 1 (QR ze)),(13,.box [.sl 11 0 zn.length,.sl 12 0 ze.length]),
   (14,.arr 1 (QR pkn)),(15,.arr 3 (eds pke)),(16,.box [.sl 14 0 pkn.length,.sl 15 0 pke.length]),(17,.arr 1 (QR (toL qn kn zn))),(18,.arr 1 (QR (toL qe (ke.take i) ze))),(19,.box [.sl 17 0 kn.length,.sl 18 0 i]),(20,.arr 1 (QR ke))],21⟩) (fun i=>i≤ke.length) (fun i=>ke.length-i) 0 ?_ ?_ ?_
   ·simp(disch:=omega)only[go_sem]
    rfl
   ·omega
   ·intro i hi
    have el:(toL qe (ke.take i) ze).length=i:=by rw[QcU,Qj];omega
    by_cases e:i<ke.length
    ·have g1:decide ((i:Int)<ke.length)=true:=Qd (by omega)
     have hbx:=hb2 _ (gt_mem (l:=ke) (j:=(i:Int)) (by omega) (by omega))
     have hst:=QFa (im:=qe) (pl:=ze) e
     have rx:=rj (gt qe (gt ke i))
     have za:=YI (l:=ke) e
     have zb:=Zp (l:=qe) (j:=gt ke (i:Int)) hbx.1 (by omega)
     simp(disch:=omega)only[go_sem,QmX,g1,tl,el,za,zb]
     refine QT rx ?_
     simp(disch:=omega)only[go_sem,tl,el]
     exact⟨i+1,by simp [hst],by omega,by omega⟩
    ·have g1:decide ((i:Int)<ke.length)=false:=Qc (by omega)
     obtain rfl:i=ke.length:=by omega
     rw[List.take_length] at el
     simp(disch:=omega)only[go_sem,QmX,g1,tl,el]
     refine QT r4 ?_
     simp(disch:=omega)only[go_sem]
     rfl
end
def QOn:LL:=[qi 2 0]
def QOo:LL:=[qm 3 0,qf 4 0 3,qf 5 1 4,ql 6 1 5,qk .add 7 6 1,qf 8 0 3,qf 9 1 8,qs 1 9 7]
def QOp:LL:=[qm 10 0,qf 11 0 10,qf 12 1 11,ql 13 1 12,qm 14 0,qf 15 0 14,qf 16 0 15,ql 17 1 16,qz 18 17,qo .gtr 19 13 18]
def QOq:LL:=[qi 2 0]
def QOr:LL:=[qm 20 0,qf 21 0 20,qf 22 0 21,ql 23 1 22,qm 24 0,qf 25 0 24,qf 26 1 25,ql 27 1 26,qk .sub 28 27 1,qd 29 1 23 28,ql 30 1 29,qQp 31 (.conv .i64 (.t 30)),qm 2 31]
def QfA(F:Fn):LC:=QQ [.reg QOn [0],.reg QOo [0],QQ [.dreg [] QOp [0,19],.cond (.t 19) (QQ [.reg QOq [0,2],.ret]) .skip],.dreg [] QOr [0,2],.ret]
def Q0m:Hints:=hOf [0] (QfA fun _=>0)
def QOs:LL:=[qB 4 1,qa 6 [.int .i64 (0),.nl 9,.nl 1,.nl 1,.nl 1,.nl 3,.nl 4,.int .i64 (0),.nl 5]]
def QOt(F:Fn):LL:=[qm 11 0,qQp 12 (.call (F "aG") [.t 11] [.mp]),qm 7 12]
def QOu:LL:=[qm 13 0,qf 14 0 13,qf 15 2 14,ql 16 1 15,qk .sub 17 16 1,qf 18 0 13,qf 19 2 18,qs 1 19 17]
def QOv:LL:=[qm 20 0,qf 21 0 20,qf 22 2 21,ql 23 1 22,qk .lss 24 23 2]
def QOw(F:Fn):LL:=[qc 25 (F "i") [],qs 9 6 25]
def QOx:LL:=[qm 26 7,qk .rem 27 26 6]
def QOy:LL:=[qk .eql 29 27 1,qm 28 29]
def QOz(F:Fn):LL:=[qm 30 0,qL 31 2 4,qm 32 2,qQp 33 (.call (F "h") [.t 30,.t 31,.t 32] [.mp,.rd,.rd]),
 qQp 34 (.buildSl 9 184 (.agg [.int .i64 (0),.lst 9 [],.lst 1 [],.lst 1 [],.lst 1 [],.lst 3 [],.lst 4 [],.int .i64 (0),.lst 5 []]) 1 [(0,.t 33)]),
 qu 35 [.int .i64 (0),.nl 9,.nl 1,.nl 1,.nl 1,.nl 3,.nl 4,.int .i64 (0),.nl 5] [(0,1,.k (.int .i64 (2))),(1,1,.t 34)],qs 9 6 35]
def QOA:LL:=[qk .eql 37 27 2,qm 36 37]
def QOB:LL:=[qk .eql 38 27 3,qm 36 38]
def QOC(F:Fn):LL:=[qm 39 0,qL 40 2 4,qm 41 2,qQp 42 (.call (F "h") [.t 39,.t 40,.t 41] [.mp,.rd,.rd]),qa 8 [.int .i64 (0),.nl 9,.nl 1,.nl 1,.nl 1,.nl 3,.nl 4,.int .i64 (0),.nl 5],
 qs 9 8 42]
def QOD(F:Fn):LL:=[qm 43 7,qk .rem 44 43 6,qQp 45 (.bin .add (.k (.int .i64 (3))) (.t 44)),qk .sub 46 45 2,qL 47 9 8,qm 48 0,qL 49 2 4,qm 50 2,
 qQp 51 (.call (F "h") [.t 48,.t 49,.t 50] [.mp,.rd,.rd]),
 qQp 52 (.buildSl 9 184 (.agg [.int .i64 (0),.lst 9 [],.lst 1 [],.lst 1 [],.lst 1 [],.lst 3 [],.lst 4 [],.int .i64 (0),.lst 5 []]) 2 [(0,.t 47),(1,.t 51)]),
 qu 53 [.int .i64 (0),.nl 9,.nl 1,.nl 1,.nl 1,.nl 3,.nl 4,.int .i64 (0),.nl 5] [(0,1,.t 46),(1,1,.t 52)],qs 9 6 53]
def QOE:LL:=[qk .eql 55 27 4,qm 54 55]
def QOF:LL:=[qk .eql 56 27 5,qm 54 56]
def QOG:LL:=[qm 57 2,qk .eql 58 57 0]
def QOH(F:Fn):LL:=[qc 59 (F "i") [],qs 9 6 59]
def QOI(F:Fn):LL:=[qL 60 2 4,qc 61 (F "t") [.t 60],qa 9 [.nl 1,.nl 3],qs 2 9 61]
def QOJ:LL:=[qf 62 0 9,ql 63 1 62,qz 64 63,qk .eql 65 64 0,qm 66 65,qg 66 false (qm 67 7),qg 66 false (qk .quo 68 67 8),qg 66 false (qk .rem 69 68 3),qg 66 false (qk .neq 70 69 2),
 qg 66 false (qm 71 70),qg 71 true (qf 72 0 9),qg 71 true (ql 73 1 72),qg 71 true (qz 74 73),qg 71 true (qk .lss 75 74 4),qg 66 false (qP 76 71 75),qQ 77 66 76]
def QOK:LL:=[qf 78 0 9,ql 79 1 78,qm 80 7,qk .quo 81 80 32,qk .rem 82 81 3,qQp 83 (.buildSl 1 8 (.int .i64 (0)) 1 [(0,.t 82)]),qp 84 1 8 79 83,qf 85 0 9,qs 1 85 84]
def QOL:LL:=[qf 86 0 9,ql 87 1 86,qz 88 87,qm 10 88]
def QOM:LL:=[qm 89 7,qk .quo 90 89 8,qk .rem 91 90 3,qk .neq 92 91 0,qm 93 92,qg 93 true (qf 94 1 9),qg 93 true (ql 95 1 94),qg 93 true (qz 96 95),qg 93 true (qk .lss 97 96 3),qP 98 93 97]
def QON:LL:=[qf 99 1 9,ql 100 1 99,qm 101 7,qk .quo 102 101 64,qk .rem 103 102 2,qm 104 7,qk .quo 105 104 16,qm 106 10,qo .rem 107 105 106,qm 108 10,qk .sub 109 108 1,
 qu 110 [.int .i64 (0),.int .i64 (0),.int .i64 (0)] [(0,1,.t 103),(1,1,.t 107),(2,1,.t 109)],
 qQp 111 (.buildSl 3 24 (.agg [.int .i64 (0),.int .i64 (0),.int .i64 (0)]) 1 [(0,.t 110)]),qp 112 3 24 100 111,qf 113 1 9,qs 1 113 112]
def QOO(F:Fn):LL:=[qL 114 2 4,qc 115 (F "K") [.t 114],qL 116 2 9,qu 117 [.nl 1,.nl 3,.nl 4,.int .i64 (0),.nl 5] [(0,2,.t 116)],qm 118 0,qL 119 2 9,qm 120 2,qk .sub 121 120 1,
 qQp 122 (.call (F "h") [.t 118,.t 119,.t 121] [.mp,.rd,.rd]),
 qQp 123 (.buildSl 9 184 (.agg [.int .i64 (0),.lst 9 [],.lst 1 [],.lst 1 [],.lst 1 [],.lst 3 [],.lst 4 [],.int .i64 (0),.lst 5 []]) 1 [(0,.t 122)]),
 qu 124 [.int .i64 (0),.nl 9,.nl 1,.nl 1,.nl 1,.nl 3,.nl 4,.int .i64 (0),.nl 5] [(0,1,.k (.int .i64 (5))),(2,2,.t 115),(4,5,.t 117),(1,1,.t 123)],qs 9 6 124]
def QOP(F:Fn):LL:=[qc 125 (F "i") [],qs 9 6 125]
def Qdc(F:Fn):LC:=QQ [.reg QOs [0,2,4,6],.reg (QOt F) [0,2,4,6,7],.reg QOu [0,2,4,6,7],QQ [.reg QOv [0,2,4,6,7,24],.cond (.t 24) (QQ [.reg (QOw F) [0,6],.ret]) .skip],QQ [.reg QOx [0,2,4,6,7,27],.block 0 (QQ [.reg QOy [0,2,4,6,7,27,28],.cond (.t 28) (QQ [.reg (QOz F) [0,6],.ret]) (QQ [QQ [.reg QOA [0,2,4,6,7,27,36],.cond (.t 36) .skip (.reg QOB [0,2,4,6,7,27,36])],.cond (.t 36) (QQ [.reg (QOC F) [0,2,4,6,7,8],.dreg [(4,none,[],true),(8,none,[4],false)] (QOD F) [0,6],.ret]) (QQ [QQ [.reg QOE [0,2,4,6,7,27,54],.cond (.t 54) .skip (.reg QOF [0,2,4,6,7,54])],.cond (.t 54) (QQ [QQ [.reg QOG [0,2,4,6,7,58],.cond (.t 58) (QQ [.reg (QOH F) [0,6],.ret]) .skip],.reg (QOI F) [0,2,4,6,7,9],QQ [.reg QOJ [0,2,4,6,7,9,77],.cond (.t 77) (.reg QOK [0,2,4,6,7,9]) .skip],QQ [.reg QOL [0,2,4,6,7,9,10],.reg QOM [0,2,4,6,7,9,10,98],.cond (.t 98) (.dreg [(1,none,[],true),(12,none,[1],false)] QON [0,2,4,6,9]) .skip],.dreg [(1,none,[],true),(2,(some 0),[1],true),(5,(some 0),[1],false),(8,none,[2],false),(9,none,[2],false)] (QOO F) [0,6],.ret]) .skip])])])],.reg (QOP F) [0,6],.ret]
def Q0n:Hints:=hOf [0] (Qdc fun _=>0)
def QOQ:LL:=[qB 2 0,qa 4 [.int .i64 (0),.nl 9,.nl 1,.nl 1,.nl 1,.nl 3,.nl 4,.int .i64 (0),.nl 5]]
def QOR:LL:=[qm 9 1,qu 10 [.nl 1,.int .i64 (0),.int .i64 (0)] [(0,1,.t 9),(2,1,.k (.int .i64 (8)))],qB 11 10,qm 5 11]
def QOS(F:Fn):LL:=[qm 12 5,qL 13 2 2,qQp 14 (.call (F "h") [.t 12,.t 13,.k (.int .i64 (2))] [.mp,.rd,.rd]),
 qa 6 [.int .i64 (0),.nl 9,.nl 1,.nl 1,.nl 1,.nl 3,.nl 4,.int .i64 (0),.nl 5],qs 9 6 14]
def QOT(F:Fn):LL:=[qL 16 9 6,qc 17 (F "m") [.t 16],qm 15 17,qx 18 15 0,qx 19 15 1,qm 7 18,qm 8 19]
def QOU:LL:=[qm 20 7,qk .gtr 21 20 8]
def QOV(F:Fn):LL:=[qc 22 (F "i") [],qs 9 4 22]
def QOW:LL:=[qL 23 9 6,qs 9 4 23]
def QfB(F:Fn):LC:=QQ [.reg QOQ [1,2,4],.reg QOR [2,4,5],.reg (QOS F) [4,6],QQ [.reg (QOT F) [4,6,7],.reg QOU [4,6,21],.cond (.t 21) (QQ [.reg (QOV F) [4],.ret]) .skip],.reg QOW [4],.ret]
def Q0o:Hints:=hOf [] (QfB fun _=>0)
def nxC(cs:List Int)(i:Int):Int:=if i+1>cs.length then 0 else gt cs i
def Y8(a:G)(c:Int):List Int:=if a.n.length=0∨((c.tdiv 8).tmod 3≠2∧a.n.length<4) then a.n++[(c.tdiv 32).tmod 3] else a.n
def QaL(a:G)(c:Int):List E:=if (c.tdiv 8).tmod 3≠0∧a.e.length<3 then a.e++[⟨(c.tdiv 64).tmod 2,(c.tdiv 16).tmod (Y8 a c).length,((Y8 a c).length:Int)-1⟩] else a.e
def YM(a:G)(c:Int):G:=⟨Y8 a c,QaL a c⟩
def Xb(cs:List Int):Nat→Int→Int→G→Int→Cnd×Int×Int
 |0,i,f,_,_=>(.tt,i+1,f-1)
 |n+1,i,f,a,d=>
  if f-1<2 then (.tt,i+1,f-1)
  else if (nxC cs i).tmod 6=1 then (.no (Xb cs n (i+1) (f-1) a d).1,(Xb cs n (i+1) (f-1) a d).2)
  else if (nxC cs i).tmod 6=2 then
   (.an [(Xb cs n (i+1) (f-1) a d).1,(Xb cs n (Xb cs n (i+1) (f-1) a d).2.1 (Xb cs n (i+1) (f-1) a d).2.2 a d).1],(Xb cs n (Xb cs n (i+1) (f-1) a d).2.1 (Xb cs n (i+1) (f-1) a d).2.2 a d).2)
  else if (nxC cs i).tmod 6=3 then
   (.or [(Xb cs n (i+1) (f-1) a d).1,(Xb cs n (Xb cs n (i+1) (f-1) a d).2.1 (Xb cs n (i+1) (f-1) a d).2.2 a d).1],(Xb cs n (Xb cs n (i+1) (f-1) a d).2.1 (Xb cs n (i+1) (f-1) a d).2.2 a d).2)
  else if (nxC cs i).tmod 6=4∨(nxC cs i).tmod 6=5 then
   if d=0 then (.tt,i+1,f-1)
   else (.ex (idM a) (YM a (nxC cs i)) (Xb cs n (i+1) (f-1) (YM a (nxC cs i)) (d-1)).1,(Xb cs n (i+1) (f-1) (YM a (nxC cs i)) (d-1)).2)
  else (.tt,i+1,f-1)
def QaM(a:G)(cs:List Int):Cnd:=if 8<csz (Xb cs 6 0 8 a 2).1 then .tt else (Xb cs 6 0 8 a 2).1
def Z3(cs:List Int)(i f:Int):D:=.box [.lst 1 (u8s cs),.int .i64 i,.int .i64 f]
attribute [go_sem] QOn QOo QOp QOq QOr QfA QOs QOt QOu QOv QOw QOx QOy QOz QOA QOB QOC QOD QOE QOF QOG QOH QOI QOJ QOK QOL QOM QON QOO QOP Qdc QOQ QOR QOS QOT QOU QOV QOW QfB
section
variable (P:Program) (F:String→Nat)
def Qm1:Prop:=∀(cs:List Int)(i f:Int),cs.length≤QW→0≤i→i≤1000000→(∀v∈cs,XF v)→FC P (F "aG") [Z3 cs i f] (.int .i64 (nxC cs i)) [(0,Z3 cs (i+1) f)]
def Qm2(n:Nat):Prop:=∀(cs:List Int)(i f:Int)(a:G)(d:Int),cs.length≤QW→(∀v∈cs,XF v)→0≤i→i+(2 ^ (n+2):Nat)≤1000000→f≤n+2→ -1000000+(2 ^ (n+2):Nat)≤f→QX a=0→0≤d→d≤2→
 FC P (F "h") [Z3 cs i f,gD a,.int .i64 d] (cnD (Xb cs n i f a d).1) [(0,Z3 cs (Xb cs n i f a d).2.1 (Xb cs n i f a d).2.2)]
def Qm3:Prop:=∀n,Qm2 P F n
def Qm4:Prop:=∀(a:G)(cs:List Int),QX a=0→cs.length≤QW→(∀v∈cs,XF v)→FC P (F "bb") [gD a,.lst 1 (u8s cs)] (cnD (QaM a cs)) []
end
section
theorem QOX{cs:List Int}{i:Int}(hb:∀v∈cs,XF v)(h0:0≤i):XF (nxC cs i):=by
 unfold nxC
 split
 ·exact⟨by omega,by omega⟩
 ·exact hb _ (gt_mem h0 (by omega))
theorem QaN{c k:Int}(h:XF c)(hk:0<k):0≤c.tdiv k∧c.tdiv k≤255:=by
 rw[Int.tdiv_eq_ediv_of_nonneg h.1]
 refine⟨Int.ediv_nonneg h.1 (by omega),Int.le_trans (Int.ediv_le_self _ h.1) h.2⟩
theorem QfC{c k:Int}(h:0≤c)(hk:0<k):0≤c.tmod k∧c.tmod k<k:=by
 rw[Int.tmod_eq_emod_of_nonneg h]
 exact⟨Int.emod_nonneg _ (by omega),Int.emod_lt_of_pos _ hk⟩
theorem QOY(a:G)(c:Int):a.n.length≤(Y8 a c).length∧(Y8 a c).length≤a.n.length+1∧0<(Y8 a c).length:=by
 unfold Y8
 split
 ·simp
 ·rename_i h
  have h1:¬a.n.length=0:=fun e=>h (.inl e)
  omega
theorem QOZ{a:G}{c:Int}(va:QX a=0)(hc:XF c):QX (YM a c)=0∧Emb a (YM a c) (idM a):=by
 obtain⟨v1,v2,v3,v4⟩:=Q8 va
 obtain⟨l1,l2,l3⟩:=QOY a c
 have t8:=QaN hc (k:=8) (by omega)
 have t32:=QaN hc (k:=32) (by omega)
 have t64:=QaN hc (k:=64) (by omega)
 have t16:=QaN hc (k:=16) (by omega)
 have m32:=QfC t32.1 (k:=3) (by omega)
 have m64:=QfC t64.1 (k:=2) (by omega)
 have m16:=QfC t16.1 (k:=((Y8 a c).length:Int)) (by omega)
 have pn:∃r,Y8 a c=a.n++r:=by
  unfold Y8
  split
  ·exact⟨_,rfl⟩
  ·exact⟨[],by simp⟩
 have pe:∃r,QaL a c=a.e++r:=by
  unfold QaL
  split
  ·exact⟨_,rfl⟩
  ·exact⟨[],by simp⟩
 have vg:QX (YM a c)=0:=by
  refine Qa4 ?_ ?_ (fun x hx=>?_) fun x hx=>?_
  ·simp only[YM]
   unfold Y8
   split
   ·rename_i h;simp;omega
   ·exact v1
  ·simp only[YM]
   unfold QaL
   split
   ·rename_i h;simp;omega
   ·exact v2
  ·simp only[YM,Y8] at hx
   split at hx
   ·rcases Qg.1 hx with hx|hx
    ·exact v3 x hx
    ·simp only[Qn] at hx
     rw[hx]
     have:=m32.2
     unfold okN
     exact Qd ⟨m32.1,by omega⟩
   ·exact v3 x hx
  ·simp only[YM] at hx ⊢
   unfold QaL at hx
   split at hx
   ·rcases Qg.1 hx with hx|hx
    ·have:=YZ (v4 x hx)
     exact Jr this.1 (by omega) (by omega)
    ·simp only[Qn] at hx
     subst hx
     exact Jr ⟨m64.1,by have:=m64.2;simp only;omega⟩ m16 ⟨by simp only;omega,by simp only;omega⟩
   ·have:=YZ (v4 x hx)
    exact Jr this.1 (by omega) (by omega)
 obtain⟨rn,hn⟩:=pn
 obtain⟨re,he⟩:=pe
 have hi:=QhT va
 refine⟨vg,⟨⟨va,vg,hi.ln,hi.le,fun i h=>?_,fun i h=>?_⟩,fun i k h1 h2 e=>?_,fun i k h1 h2 e=>?_⟩⟩
 ·simp only[idM,YM,hn]
  rw[XN h,Qbb (by omega) (by omega)]
  exact⟨by simp;omega,rfl⟩
 ·obtain⟨_,g2,g3,g4⟩:=hi.ed i h
  simp only[idM,YM,he] at*
  rw[XN h] at g2 g3 g4 ⊢
  rw[Qbb (by omega) (by omega)]
  exact⟨by simp;omega,g2,g3,g4⟩
 ·simp only[idM] at e
  rw[XN h1,XN h2] at e
  omega
 ·simp only[idM] at e
  rw[XN h1,XN h2] at e
  omega
theorem Qcb(cs:List Int):∀(n:Nat)(i f:Int)(a:G)(d:Int),(i<(Xb cs n i f a d).2.1∧(Xb cs n i f a d).2.1≤i+(2 ^ (n+1):Nat)-1)∧((Xb cs n i f a d).2.2<f∧f-(2 ^ (n+1):Nat)+1≤(Xb cs n i f a d).2.2)∧csz (Xb cs n i f a d).1≤2 ^ (n+1)-1
 |0,i,f,a,d=>by simp [Xb,csz];omega
 |n+1,i,f,a,d=>by
  have p1:2 ^ (n+1+1)=2*2 ^ (n+1):=by rw[Nat.pow_succ];omega
  have p2:1≤2 ^ (n+1):=Nat.one_le_two_pow
  have h1:=Qcb cs n (i+1) (f-1) a d
  have h2:=Qcb cs n (Xb cs n (i+1) (f-1) a d).2.1 (Xb cs n (i+1) (f-1) a d).2.2 a d
  have h3:=Qcb cs n (i+1) (f-1) (YM a (nxC cs i)) (d-1)
  rw[p1]
  simp only[Xb]
  generalize Xb cs n (Xb cs n (i+1) (f-1) a d).2.1 (Xb cs n (i+1) (f-1) a d).2.2 a d=r2 at*
  generalize Xb cs n (i+1) (f-1) a d=r1 at*
  generalize Xb cs n (i+1) (f-1) (YM a (nxC cs i)) (d-1)=r3 at*
  generalize 2 ^ (n+1)=q at*
  split
  ·simp [csz];omega
  ·split
   ·simp [csz];omega
   ·split
    ·simp [csz,Xu];omega
    ·split
     ·simp [csz,Xu];omega
     ·split
      ·split
       ·simp [csz];omega
       ·simp [csz];omega
      ·simp [csz];omega
theorem QfD{cs:List Int}(hb:∀v∈cs,XF v):∀(n:Nat)(i f:Int)(a:G)(d:Int),0≤i→QX a=0→0≤d→Q3 a (Xb cs n i f a d).1∧(cdp (Xb cs n i f a d).1:Int)≤d
 |0,i,f,a,d,_,_,hd=>by simp only[Xb,Q3,cdp];exact⟨trivial,by omega⟩
 |n+1,i,f,a,d,h0,va,hd=>by
  have hc:=QOX hb h0
  obtain⟨v1,v2⟩:=QOZ va hc
  have h1:=QfD hb n (i+1) (f-1) a d (by omega) va hd
  have b1:=(Qcb cs n (i+1) (f-1) a d).1
  have h2:=QfD hb n (Xb cs n (i+1) (f-1) a d).2.1 (Xb cs n (i+1) (f-1) a d).2.2 a d (by omega) va hd
  have h3:d≠0→_:=fun hd0=>QfD hb n (i+1) (f-1) (YM a (nxC cs i)) (d-1) (by omega) v1 (by omega)
  simp only[Xb]
  split
  ·simp only[Q3,cdp];exact⟨trivial,by omega⟩
  ·split
   ·simp only[Q3,cdp];exact h1
   ·split
    ·simp only[Q3,YK,cdp,Ya];exact⟨⟨by simp,h1.1,h2.1,trivial⟩,by omega⟩
    ·split
     ·simp only[Q3,YK,cdp,Ya];exact⟨⟨by simp,h1.1,h2.1,trivial⟩,by omega⟩
     ·split
      ·split
       ·simp only[Q3,cdp];exact⟨trivial,by omega⟩
       ·rename_i hd0
        obtain⟨h4,h5⟩:=h3 hd0
        simp only[Q3,cdp];exact⟨⟨v2,h4⟩,by omega⟩
      ·simp only[Q3,cdp];exact⟨trivial,by omega⟩
theorem Q0p{cs:List Int}{a:G}(hb:∀v∈cs,XF v)(va:QX a=0):Q3 a (QaM a cs)∧csz (QaM a cs)≤8∧cdp (QaM a cs)≤2:=by
 unfold QaM
 split
 ·simp [Q3,csz,cdp]
 ·obtain⟨h1,h2⟩:=QfD hb 6 0 8 a 2 (by omega) va (by omega)
  exact⟨h1,by omega,by omega⟩
end
section
variable {P:Program} {F:String→Nat} {α:Type}
theorem kz6:((6:Int)=0)=False:=by simp
theorem kz3:((3:Int)=0)=False:=by simp
theorem kz2:((2:Int)=0)=False:=by simp
theorem kz8:((8:Int)=0)=False:=by simp
theorem Q0q:((32:Int)=0)=False:=by simp
theorem Q0r:((64:Int)=0)=False:=by simp
theorem Q0s:((16:Int)=0)=False:=by simp
attribute [go_sem] kz6 kz3 kz2 kz8 Q0q Q0r Q0s
theorem Q0t(cs:List Int)(i f:Int)(hl:cs.length≤QW)(h0:0≤i)(h1:i≤1000000)(hb:∀v∈cs,XF v):W P (QfA F) (Done [.t 2] [0] (.int .i64 (nxC cs i)) [(0,Z3 cs (i+1) f)]) (init [Z3 cs i f]):=by
 refine QZ ?_
 have e:nxC cs i=if i+1>cs.length then 0 else gt cs i:=rfl
 have hg:i<cs.length→XF (gt cs i):=fun h=>hb _ (gt_mem h0 h)
 generalize nxC cs i=z at*
 obtain⟨j,rfl⟩:=Qz h0
 simp only[Z3]
 by_cases c:(j:Int)+1>cs.length
 ·rw[if_pos c] at e
  subst e
  have g1:decide ((cs.length:Int)<(j:Int)+1)=true:=Qd c
  simp(disch:=omega)only[go_sem,g1]
  try rfl
 ·rw[if_neg c] at e
  subst e
  have g1:decide ((cs.length:Int)<(j:Int)+1)=false:=Qc c
  obtain⟨b1,b2⟩:=hg (by omega)
  have hz:(u8s cs)[j]?=some (.int .u8 (gt cs (j:Int))):=QqZ (by omega)
  have hj:((j:Int)+1-1)=j:=by omega
  have hj2:((j:Int)).toNat=j:=by simp
  simp(disch:=omega)only[go_sem,g1,hj,hj2,hz]
  try rfl
set_option maxHeartbeats 2000000 in
set_option maxRecDepth 100000 in
theorem Q0u{cs:List Int}{i f d c:Int}{an imn ime gN:List Int}{ae gE:List E}{K:Int}{L:List D}{mn me pn:List Int}{pe:List E}{i3 f3:Int}
  (r1:FC P (F "aG") [D.box [.lst 1 (u8s cs),.int .i64 i,.int .i64 f]] (.int .i64 c) [(0,D.box [.lst 1 (u8s cs),.int .i64 (i+1),.int .i64 f])])
  (g1:decide (f-1<2)=false) (z1:decide (c.tmod 6=1)=false) (z2:decide (c.tmod 6=2)=false) (z3:decide (c.tmod 6=3)=false) (z5:decide (d=0)=false) (q4:c.tmod 6=4∨c.tmod 6=5)
  (r5:FC P (F "t") [D.agg [.lst 1 (QR an),.lst 3 (eds ae)]] (.agg [.arr 1 (QR an),.arr 3 (eds ae)]) [])
  (r6:FC P (F "K") [D.agg [.lst 1 (QR an),.lst 3 (eds ae)]] (.agg [.arr 1 (QR imn),.arr 1 (QR ime)]) [])
  (k3:FC P (F "h") [D.box [.lst 1 (u8s cs),.int .i64 (i+1),.int .i64 (f-1)],.agg [.lst 1 (QR gN),.lst 3 (eds gE)],.int .i64 (d-1)]
   (.agg [.int .i64 K,.lst 9 L,.lst 1 (QR mn),.lst 1 (QR me),.lst 1 (QR pn),.lst 3 (eds pe),.lst 4 [],.int .i64 0,.lst 5 []]) [(0,D.box [.lst 1 (u8s cs),.int .i64 i3,.int .i64 f3])])
  (v1:an.length≤40) (v2:ae.length≤80) (c0:0≤c) (c255:c≤255) (t8:0≤c.tdiv 8∧c.tdiv 8≤255) (t32:0≤c.tdiv 32∧c.tdiv 32≤255) (t64:0≤c.tdiv 64∧c.tdiv 64≤255) (t16:0≤c.tdiv 16∧c.tdiv 16≤255)
  (m16:0≤(c.tdiv 16).tmod gN.length∧(c.tdiv 16).tmod gN.length<gN.length)
  (eN:gN=if an.length=0∨(c.tdiv 8).tmod 3≠2∧an.length<4 then an++[(c.tdiv 32).tmod 3] else an)
  (eE:gE=if (c.tdiv 8).tmod 3≠0∧ae.length<3 then ae++[⟨(c.tdiv 64).tmod 2,(c.tdiv 16).tmod gN.length,(gN.length:Int)-1⟩] else ae)
  (fb: -1000000≤f∧f≤1000003) (hi2:i≤1000000) (h0:0≤i) (d0:0≤d) (d2:d≤2):
  @RUN P (Qdc F) ⟨DoneZ [.c 6 true 9] [0] (.agg [.int .i64 5,.lst 9 [.agg [.int .i64 K,.lst 9 L,.lst 1 (QR mn),.lst 1 (QR me),.lst 1 (QR pn),.lst 3 (eds pe),.lst 4 [],.int .i64 0,.lst 5 []]],.lst 1 (QR imn),.lst 1 (QR ime),.lst 1 (QR gN),.lst 3 (eds gE),.lst 4 [],.int .i64 0,.lst 5 []]) [(0,D.box [.lst 1 (u8s cs),.int .i64 i3,.int .i64 f3])]⟩
   (init [D.box [.lst 1 (u8s cs),.int .i64 i,.int .i64 f],.agg [.lst 1 (QR an),.lst 3 (eds ae)],.int .i64 d]):=by
 have zz:(decide (c.tmod 6=4)=true∧decide (c.tmod 6=5)=false)∨(decide (c.tmod 6=4)=false∧decide (c.tmod 6=5)=true):=by
  rcases q4 with h|h
  ·exact .inl ⟨Qd h,Qc (by omega)⟩
  ·exact .inr ⟨Qc (by omega),Qd h⟩
 have tN:(gN=an++[(c.tdiv 32).tmod 3]∧(decide ((an.length:Int)=0)=true∨(decide ((an.length:Int)=0)=false∧decide ((c.tdiv 8).tmod 3=2)=false∧decide ((an.length:Int)<4)=true)))∨
   (gN=an∧0<an.length∧decide ((an.length:Int)=0)=false∧(decide ((c.tdiv 8).tmod 3=2)=true∨(decide ((c.tdiv 8).tmod 3=2)=false∧decide ((an.length:Int)<4)=false))):=by
  simp only[Qk,QE]
  by_cases h:an.length=0∨(c.tdiv 8).tmod 3≠2∧an.length<4
  ·rw[if_pos h] at eN
   exact .inl ⟨eN,by omega⟩
  ·rw[if_neg h] at eN
   exact .inr ⟨eN,by omega,by omega,by omega⟩
 have tE:(gE=ae++[⟨(c.tdiv 64).tmod 2,(c.tdiv 16).tmod gN.length,(gN.length:Int)-1⟩]∧decide ((c.tdiv 8).tmod 3=0)=false∧decide ((ae.length:Int)<3)=true)∨
   (gE=ae∧(decide ((c.tdiv 8).tmod 3=0)=true∨(decide ((c.tdiv 8).tmod 3=0)=false∧decide ((ae.length:Int)<3)=false))):=by
  simp only[Qk,QE]
  by_cases h:(c.tdiv 8).tmod 3≠0∧ae.length<3
  ·rw[if_pos h] at eE
   exact .inl ⟨eE,by omega,by omega⟩
  ·rw[if_neg h] at eE
   exact .inr ⟨eE,by omega⟩
 clear eN eE q4
 rcases zz with⟨z4,z6⟩|⟨z4,z6⟩
 all_goals
  simp(disch:=omega)only[go_sem]
  refine QT r1 ?_
  simp(disch:=omega)only[go_sem,g1,z1,z2,z3,z4,z5,z6]
  refine QT r5 ?_
  rcases tN with⟨rfl,tN⟩|⟨rfl,hp,y0,tN⟩
  ·have gl:(an++[(c.tdiv 32).tmod 3]).length=an.length+1:=by simp
   rw[gl] at m16 tE
   have gz:(((an.length+1:Nat):Int)=0)=False:=eq_false (by omega)
   rcases tE with⟨rfl,y00,y3⟩|⟨rfl,y00|⟨y00,y3⟩⟩
   ·generalize hm:(c.tdiv 16).tmod ((an.length+1:Nat):Int)=M at*
    rcases tN with y0|⟨y0,y2,y4⟩
    ·simp(disch:=omega)only[go_sem,y0,y00,y3,gz,hm]
     refine QT r6 ?_
     simp(disch:=omega)only[go_sem]
     refine QT k3 ?_
     simp(disch:=omega)only[go_sem]
    ·simp(disch:=omega)only[go_sem,y0,y2,y4,y00,y3,gz,hm]
     refine QT r6 ?_
     simp(disch:=omega)only[go_sem]
     refine QT k3 ?_
     simp(disch:=omega)only[go_sem]
   ·rcases tN with y0|⟨y0,y2,y4⟩
    ·simp(disch:=omega)only[go_sem,y0,y00]
     refine QT r6 ?_
     simp(disch:=omega)only[go_sem]
     refine QT k3 ?_
     simp(disch:=omega)only[go_sem]
    ·simp(disch:=omega)only[go_sem,y0,y2,y4,y00]
     refine QT r6 ?_
     simp(disch:=omega)only[go_sem]
     refine QT k3 ?_
     simp(disch:=omega)only[go_sem]
   ·rcases tN with y0|⟨y0,y2,y4⟩
    ·simp(disch:=omega)only[go_sem,y0,y00,y3]
     refine QT r6 ?_
     simp(disch:=omega)only[go_sem]
     refine QT k3 ?_
     simp(disch:=omega)only[go_sem]
    ·simp(disch:=omega)only[go_sem,y0,y2,y4,y00,y3]
     refine QT r6 ?_
     simp(disch:=omega)only[go_sem]
     refine QT k3 ?_
     simp(disch:=omega)only[go_sem]
  ·have gz:((gN.length:Int)=0)=False:=eq_false (by omega)
   rcases tE with⟨rfl,y00,y3⟩|⟨rfl,y00|⟨y00,y3⟩⟩
   ·generalize hm:(c.tdiv 16).tmod (gN.length:Int)=M at*
    rcases tN with y2|⟨y2,y4⟩
    ·simp(disch:=omega)only[go_sem,y0,y2,y00,y3,gz,hm]
     refine QT r6 ?_
     simp(disch:=omega)only[go_sem]
     refine QT k3 ?_
     simp(disch:=omega)only[go_sem]
    ·simp(disch:=omega)only[go_sem,y0,y2,y4,y00,y3,gz,hm]
     refine QT r6 ?_
     simp(disch:=omega)only[go_sem]
     refine QT k3 ?_
     simp(disch:=omega)only[go_sem]
   ·rcases tN with y2|⟨y2,y4⟩
    ·simp(disch:=omega)only[go_sem,y0,y2,y00]
     refine QT r6 ?_
     simp(disch:=omega)only[go_sem]
     refine QT k3 ?_
     simp(disch:=omega)only[go_sem]
    ·simp(disch:=omega)only[go_sem,y0,y2,y4,y00]
     refine QT r6 ?_
     simp(disch:=omega)only[go_sem]
     refine QT k3 ?_
     simp(disch:=omega)only[go_sem]
   ·rcases tN with y2|⟨y2,y4⟩
    ·simp(disch:=omega)only[go_sem,y0,y2,y00,y3]
     refine QT r6 ?_
     simp(disch:=omega)only[go_sem]
     refine QT k3 ?_
     simp(disch:=omega)only[go_sem]
    ·simp(disch:=omega)only[go_sem,y0,y2,y4,y00,y3]
     refine QT r6 ?_
     simp(disch:=omega)only[go_sem]
     refine QT k3 ?_
     simp(disch:=omega)only[go_sem]
set_option maxRecDepth 100000 in
theorem Q0v(hx:Qm1 P F)(ht:QeY P F)(hcp:Qcv P F)(hof:Qd5 P F)(n:Nat)(ih:∀m,m<n→Qm2 P F m)(cs:List Int)(i f:Int)(a:G)(d:Int)(hl:cs.length≤QW)(hb:∀v∈cs,XF v)(h0:0≤i)(h1:i+(2 ^ (n+2):Nat)≤1000000)(h2:f≤n+2)(h3: -1000000+(2 ^ (n+2):Nat)≤f)(va:QX a=0)(d0:0≤d)(d2:d≤2):
  W P (Qdc F) (DoneZ [.c 6 true 9] [0] (cnD (Xb cs n i f a d).1) [(0,Z3 cs (Xb cs n i f a d).2.1 (Xb cs n i f a d).2.2)]) (init [Z3 cs i f,gD a,.int .i64 d]):=by
 refine ZH ?_
 have p0:1≤2 ^ (n+2):=Nat.one_le_two_pow
 have r1:=hx cs i f hl h0 (by omega) hb
 have hc:=QOX hb h0
 have ht':FC P (F "i") [] (cnD .tt) []:=ht
 rw[Q4] at ht'
 simp only[Q9,QU,Xn,Xk,m0,g0,Qk6] at ht'
 obtain⟨v1,v2,_⟩:=Q8 va
 have tt:∀(j k:Int),@Eq (Option (D×List (Nat×D))) (some (.agg [.int .i64 1,.lst 9 [],.lst 1 (QR []),.lst 1 (QR []),.lst 1 (QR []),.lst 3 (eds []),.lst 4 [],.int .i64 0,.lst 5 []],[(0,Z3 cs j k)])) (some (cnD .tt,[(0,Z3 cs j k)])):=fun j k=>by
  rw[Q4];rfl
 obtain⟨an,ae⟩:=a
 by_cases c1:f-1<2
 ·have e:Xb cs n i f ⟨an,ae⟩ d=(.tt,i+1,f-1):=by
   cases n with
   |zero=>rfl
   |succ n=>simp only[Xb,if_pos c1]
  rw[e]
  have g1:decide (f-1<2)=true:=Qd c1
  simp only[Z3,gD] at*
  simp(disch:=omega)only[go_sem]
  refine QT r1 ?_
  simp(disch:=omega)only[go_sem,g1]
  refine QT ht' ?_
  simp(disch:=omega)only[go_sem]
  exact tt _ _
 have g1:decide (f-1<2)=false:=Qc c1
 cases n with
 |zero=>omega
 |succ n=>
 have p1:2 ^ (n+1+2)=4*2 ^ (n+1):=by rw[Nat.pow_succ,Nat.pow_succ];omega
 have p2:2 ^ (n+2)=2*2 ^ (n+1):=by rw[Nat.pow_succ];omega
 have p3:1≤2 ^ (n+1):=Nat.one_le_two_pow
 rw[p1] at h1 h3
 have p4:n+1<2 ^ (n+1):=Nat.lt_two_pow_self
 have fb: -1000000≤f∧f≤1000003:=⟨by omega,by omega⟩
 have b1:=Qcb cs n (i+1) (f-1) ⟨an,ae⟩ d
 have k1:=ih n (by omega) cs (i+1) (f-1) ⟨an,ae⟩ d hl hb (by omega) (by omega) (by omega) (by omega) va d0 d2
 have k2:=ih n (by omega) cs (Xb cs n (i+1) (f-1) ⟨an,ae⟩ d).2.1 (Xb cs n (i+1) (f-1) ⟨an,ae⟩ d).2.2 ⟨an,ae⟩ d hl hb (by omega) (by omega) (by omega) (by omega) va d0 d2
 have vg:=(QOZ va hc).1
 have k3:d≠0→_:=fun hd=>ih n (by omega) cs (i+1) (f-1) (YM ⟨an,ae⟩ (nxC cs i)) (d-1) hl hb (by omega) (by omega) (by omega) (by omega) vg (by omega) (by omega)
 have r5:=hcp ⟨an,ae⟩ (by omega) (by omega)
 have r6:=hof ⟨an,ae⟩ (by omega) (by omega)
 have eq:Xb cs (n+1) i f ⟨an,ae⟩ d=if (nxC cs i).tmod 6=1 then (.no (Xb cs n (i+1) (f-1) ⟨an,ae⟩ d).1,(Xb cs n (i+1) (f-1) ⟨an,ae⟩ d).2)
  else if (nxC cs i).tmod 6=2 then
   (.an [(Xb cs n (i+1) (f-1) ⟨an,ae⟩ d).1,(Xb cs n (Xb cs n (i+1) (f-1) ⟨an,ae⟩ d).2.1 (Xb cs n (i+1) (f-1) ⟨an,ae⟩ d).2.2 ⟨an,ae⟩ d).1],(Xb cs n (Xb cs n (i+1) (f-1) ⟨an,ae⟩ d).2.1 (Xb cs n (i+1) (f-1) ⟨an,ae⟩ d).2.2 ⟨an,ae⟩ d).2)
  else if (nxC cs i).tmod 6=3 then
   (.or [(Xb cs n (i+1) (f-1) ⟨an,ae⟩ d).1,(Xb cs n (Xb cs n (i+1) (f-1) ⟨an,ae⟩ d).2.1 (Xb cs n (i+1) (f-1) ⟨an,ae⟩ d).2.2 ⟨an,ae⟩ d).1],(Xb cs n (Xb cs n (i+1) (f-1) ⟨an,ae⟩ d).2.1 (Xb cs n (i+1) (f-1) ⟨an,ae⟩ d).2.2 ⟨an,ae⟩ d).2)
  else if (nxC cs i).tmod 6=4∨(nxC cs i).tmod 6=5 then
   if d=0 then (.tt,i+1,f-1)
   else (.ex (idM ⟨an,ae⟩) (YM ⟨an,ae⟩ (nxC cs i)) (Xb cs n (i+1) (f-1) (YM ⟨an,ae⟩ (nxC cs i)) (d-1)).1,(Xb cs n (i+1) (f-1) (YM ⟨an,ae⟩ (nxC cs i)) (d-1)).2)
  else (.tt,i+1,f-1):=by
  simp only[Xb,if_neg c1]
 generalize Xb cs (n+1) i f ⟨an,ae⟩ d=R at*
 have t8:=QaN hc (k:=8) (by omega)
 have t32:=QaN hc (k:=32) (by omega)
 have t64:=QaN hc (k:=64) (by omega)
 have t16:=QaN hc (k:=16) (by omega)
 obtain⟨gl1,gl2,gl3⟩:=QOY ⟨an,ae⟩ (nxC cs i)
 have m16:=QfC t16.1 (k:=((Y8 ⟨an,ae⟩ (nxC cs i)).length:Int)) (by omega)
 have eN:Y8 ⟨an,ae⟩ (nxC cs i)=if an.length=0∨(((nxC cs i).tdiv 8).tmod 3≠2∧an.length<4) then an++[((nxC cs i).tdiv 32).tmod 3] else an:=rfl
 have eE:QaL ⟨an,ae⟩ (nxC cs i)=if ((nxC cs i).tdiv 8).tmod 3≠0∧ae.length<3 then ae++[⟨((nxC cs i).tdiv 64).tmod 2,((nxC cs i).tdiv 16).tmod (Y8 ⟨an,ae⟩ (nxC cs i)).length,((Y8 ⟨an,ae⟩ (nxC cs i)).length:Int)-1⟩] else ae:=rfl
 obtain⟨c0,c255⟩:=hc
 simp only[YM] at*
 have hi2:i≤1000000:=by omega
 clear ih hx ht hcp hof p0 p1 p2 p3 p4 va vg h1 h3
 generalize Xb cs n (Xb cs n (i+1) (f-1) ⟨an,ae⟩ d).2.1 (Xb cs n (i+1) (f-1) ⟨an,ae⟩ d).2.2 ⟨an,ae⟩ d=R2 at*
 generalize Xb cs n (i+1) (f-1) ⟨an,ae⟩ d=R1 at*
 generalize Xb cs n (i+1) (f-1) ⟨Y8 ⟨an,ae⟩ (nxC cs i),QaL ⟨an,ae⟩ (nxC cs i)⟩ (d-1)=R3 at*
 generalize QaL ⟨an,ae⟩ (nxC cs i)=gE at*
 generalize Y8 ⟨an,ae⟩ (nxC cs i)=gN at*
 generalize nxC cs i=c at*
 generalize idM ⟨an,ae⟩=im at*
 obtain⟨imn,ime⟩:=im
 obtain⟨C1,i1,f1⟩:=R1
 obtain⟨C2,i2,f2⟩:=R2
 obtain⟨C3,i3,f3⟩:=R3
 have hC1:=Q4 C1
 have hC2:=Q4 C2
 have hC3:=Q4 C3
 simp only[Z3,gD,gA,mA] at*
 by_cases q1:c.tmod 6=1
 ·rw[if_pos q1] at eq
  subst eq
  have e1:=Q4 (.no C1)
  simp only[Q9,QU,Xn,Xk,m0,g0,Qbd] at e1
  rw[e1]
  have z1:decide (c.tmod 6=1)=true:=Qd q1
  rw[hC1] at k1
  simp(disch:=omega)only[go_sem]
  refine QT r1 ?_
  simp(disch:=omega)only[go_sem,g1,z1]
  refine QT k1 ?_
  simp(disch:=omega)only[go_sem]
  rw[hC1]
  rfl
 have z1:decide (c.tmod 6=1)=false:=Qc q1
 rw[if_neg q1] at eq
 by_cases q2:c.tmod 6=2
 ·rw[if_pos q2] at eq
  subst eq
  have e1:=Q4 (.an [C1,C2])
  simp only[Q9,QU,Xn,Xk,m0,g0,cds,List.map_cons,List.map_nil] at e1
  rw[e1]
  have z2:decide (c.tmod 6=2)=true:=Qd q2
  rw[hC1] at k1
  rw[hC2] at k2
  simp(disch:=omega)only[go_sem]
  refine QT r1 ?_
  simp(disch:=omega)only[go_sem,g1,z1,z2]
  refine QT k1 ?_
  simp(disch:=omega)only[go_sem,q2]
  refine QT k2 ?_
  simp(disch:=omega)only[go_sem]
  rw[hC1,hC2]
  rfl
 have z2:decide (c.tmod 6=2)=false:=Qc q2
 rw[if_neg q2] at eq
 by_cases q3:c.tmod 6=3
 ·rw[if_pos q3] at eq
  subst eq
  have e1:=Q4 (.or [C1,C2])
  simp only[Q9,QU,Xn,Xk,m0,g0,cds,List.map_cons,List.map_nil] at e1
  rw[e1]
  have z3:decide (c.tmod 6=3)=true:=Qd q3
  rw[hC1] at k1
  rw[hC2] at k2
  simp(disch:=omega)only[go_sem]
  refine QT r1 ?_
  simp(disch:=omega)only[go_sem,g1,z1,z2,z3]
  refine QT k1 ?_
  simp(disch:=omega)only[go_sem,q3]
  refine QT k2 ?_
  simp(disch:=omega)only[go_sem]
  rw[hC1,hC2]
  rfl
 have z3:decide (c.tmod 6=3)=false:=Qc q3
 rw[if_neg q3] at eq
 by_cases q4:c.tmod 6=4∨c.tmod 6=5
 ·rw[if_pos q4] at eq
  have z45:decide (c.tmod 6=4)=true∨(decide (c.tmod 6=4)=false∧decide (c.tmod 6=5)=true):=by
   rcases q4 with h|h
   ·exact .inl (Qd h)
   ·exact .inr ⟨Qc (by omega),Qd h⟩
  by_cases q5:d=0
  ·rw[if_pos q5] at eq
   subst eq
   subst q5
   have z5:decide ((0:Int)=0)=true:=rfl
   rcases z45 with z4|⟨z4,z6⟩
   ·simp(disch:=omega)only[go_sem]
    refine QT r1 ?_
    simp(disch:=omega)only[go_sem,g1,z1,z2,z3,z4,z5]
    refine QT ht' ?_
    simp(disch:=omega)only[go_sem]
    exact tt _ _
   ·simp(disch:=omega)only[go_sem]
    refine QT r1 ?_
    simp(disch:=omega)only[go_sem,g1,z1,z2,z3,z4,z5,z6]
    refine QT ht' ?_
    simp(disch:=omega)only[go_sem]
    exact tt _ _
  ·rw[if_neg q5] at eq
   subst eq
   have z5:decide (d=0)=false:=Qc q5
   have k3:=k3 q5
   have e1:=Q4 (.ex ⟨imn,ime⟩ ⟨gN,gE⟩ C3)
   simp only[Q9,QU,Xn,Xk,Qbd] at e1
   rw[e1]
   rw[hC3] at k3 ⊢
   exact Q0u r1 g1 z1 z2 z3 z5 q4 r5 r6 k3 v1 v2 c0 c255 t8 t32 t64 t16 m16 eN eE fb hi2 h0 d0 d2
 ·rw[if_neg q4] at eq
  subst eq
  have z4:decide (c.tmod 6=4)=false:=Qc fun h=>q4 (.inl h)
  have z6:decide (c.tmod 6=5)=false:=Qc fun h=>q4 (.inr h)
  simp(disch:=omega)only[go_sem]
  refine QT r1 ?_
  simp(disch:=omega)only[go_sem,g1,z1,z2,z3,z4,z6]
  refine QT ht' ?_
  simp(disch:=omega)only[go_sem]
  exact tt _ _
theorem Q0w(hm:Qm3 P F)(hz:Qc0 P F)(ht:QeY P F)(a:G)(cs:List Int)(va:QX a=0)(hl:cs.length≤QW)(hb:∀v∈cs,XF v):W P (QfB F) (DoneZ [.c 4 true 9] [] (cnD (QaM a cs)) []) (init [gD a,.lst 1 (u8s cs)]):=by
 refine ZH ?_
 have r1:=hm 6 cs 0 8 a 2 hl hb (by omega) (by decide) (by omega) (by decide) va (by omega) (by omega)
 have hs:=(Qcb cs 6 0 8 a 2).2.2
 have r2:=hz _ (Xb cs 6 0 8 a 2).1 rfl (by omega)
 have r3:FC P (F "i") [] (cnD .tt) []:=ht
 have e:QaM a cs=if 8<csz (Xb cs 6 0 8 a 2).1 then .tt else (Xb cs 6 0 8 a 2).1:=rfl
 generalize Xb cs 6 0 8 a 2=R at*
 obtain⟨C,j,f⟩:=R
 simp only at e r1 r2
 simp only[Z3] at r1
 obtain⟨an,ae⟩:=a
 simp only[gD] at*
 by_cases h:8<csz C
 ·rw[if_pos h] at e
  rw[e]
  have g1:decide ((8:Int)<csz C)=true:=Qd (by omega)
  rw[Q4] at r1 r2 r3 ⊢
  simp(disch:=omega)only[go_sem]
  refine QT r1 ?_
  simp(disch:=omega)only[go_sem]
  refine QT r2 ?_
  simp(disch:=omega)only[go_sem,g1]
  refine QT r3 ?_
  simp(disch:=omega)only[go_sem]
 ·rw[if_neg h] at e
  rw[e]
  have g1:decide ((8:Int)<csz C)=false:=Qc (by omega)
  rw[Q4] at r1 r2 ⊢
  simp(disch:=omega)only[go_sem]
  refine QT r1 ?_
  simp(disch:=omega)only[go_sem]
  refine QT r2 ?_
  simp(disch:=omega)only[go_sem,g1]
end
def QO0:LL:=[qB 1 0,qb 2 false]
def QO1(F:Fn):LL:=[qc 28 (F "T") [],qv 29 28,qm 30 29,qg 30 false (qf 31 0 1),qg 30 false (qf 32 0 31),qg 30 false (qf 33 0 32),qg 30 false (ql 34 1 33),qg 30 false (qz 35 34),
 qg 30 false (qk .gtr 36 35 3),qQ 37 30 36,qm 38 37,qg 38 false (qf 39 0 1),qg 38 false (qf 40 0 39),qg 38 false (qf 41 1 40),qg 38 false (ql 42 1 41),qg 38 false (qz 43 42),
 qg 38 false (qk .gtr 44 43 2),qQ 45 38 44,qm 46 45,qg 46 false (qf 47 0 1),qg 46 false (qf 48 3 47),qg 46 false (ql 49 1 48),qg 46 false (qz 50 49),qg 46 false (qk .gtr 51 50 4),
 qQ 52 46 51,qm 53 52,qg 53 false (qf 54 5 1),qg 53 false (ql 55 1 54),qg 53 false (qz 56 55),qg 53 false (qk .gtr 57 56 12),qQ 58 53 57,qm 59 58,qg 59 false (qf 60 6 1),
 qg 59 false (qf 61 0 60),qg 59 false (ql 62 1 61),qg 59 false (qz 63 62),qg 59 false (qk .gtr 64 63 3),qQ 65 59 64,qm 66 65,qg 66 false (qf 67 6 1),qg 66 false (qf 68 1 67),
 qg 66 false (ql 69 1 68),qg 66 false (qz 70 69),qg 66 false (qk .gtr 71 70 3),qQ 72 66 71]
def QO2(F:Fn):LL:=[qc 73 (F "T") [],qm 2 73]
def QO3(F:Fn):LL:=[qf 74 0 1,qL 75 4 74,qc 76 (F "aT") [.t 75],
 qQp 3 (.alloc [.str (bs []),.nl 1,.nl 3,.nl 4,.int .i64 (0),.nl 5,.nl 1,.nl 3,.nl 4,.int .i64 (0),.nl 5,.nl 1,.nl 1,.nl 1,.nl 1,.bool false,.int .i64 (0),.nl 9,.nl 1,.nl 1,.nl 1,.nl 3,.nl 4,.int .i64 (0),.nl 5]),
 qs 25 3 76]
def QO4:LL:=[qf 77 6 3,qf 78 0 77,qL 79 2 78,qa 4 [.nl 1,.nl 3],qs 2 4 79]
def QO5:LL:=[qf 80 0 4,ql 81 1 80,qz 82 81,qk .gtr 83 82 4,qm 84 83,qg 84 false (qf 85 1 4),qg 84 false (ql 86 1 85),qg 84 false (qz 87 86),qg 84 false (qk .gtr 88 87 3),qQ 89 84 88]
def QO6:LL:=[qb 2 true]
def QO7(F:Fn):LL:=[qL 91 2 4,qL 92 2 4,qf 93 4 1,ql 94 1 93,qc 95 (F "ae") [.t 92,.t 94],qc 96 (F "C") [.t 91,.t 95],qm 90 96,qx 97 90 0,qx 98 90 1,qx 99 90 2,qa 5 [.nl 1,.nl 3],qa 6 [.nl 1,.nl 1],
 qs 2 5 97,qs 2 6 98,qm 7 99]
def QO8(F:Fn):LL:=[qL 100 2 5,qf 101 5 1,ql 102 1 101,qc 103 (F "bb") [.t 100,.t 102],qa 8 [.int .i64 (0),.nl 9,.nl 1,.nl 1,.nl 1,.nl 3,.nl 4,.int .i64 (0),.nl 5],qs 9 8 103]
def QO9(F:Fn):LL:=[qm 104 7,qk .neq 105 104 0,qm 106 105,qg 106 false (qL 107 2 5),qg 106 false (qL 108 9 8),qg 106 false (qc 109 (F "bT") [.t 107,.t 108]),qg 106 false (qv 110 109),qQ 111 106 110]
def QPa:LL:=[qm 112 7,qk .eql 113 112 0,qm 2 113]
def QPb(F:Fn):LL:=[qL 115 2 5,qL 116 2 4,qL 117 2 6,qL 118 9 8,qc 119 (F "O") [.t 115,.t 116,.t 117,.t 118],qm 114 119,qx 120 114 0,qx 121 114 1,
 qa 9 [.int .i64 (0),.nl 9,.nl 1,.nl 1,.nl 1,.nl 3,.nl 4,.int .i64 (0),.nl 5],qs 9 9 120,qm 10 121]
def QPc:LL:=[qm 122 10,qk .neq 123 122 0]
def QPd:LL:=[qm 124 10,qk .eql 125 124 3,qm 2 125]
def QPe(F:Fn):LL:=[qL 127 25 3,qL 128 9 9,qc 129 (F "q") [.t 127,.t 128],qm 126 129,qx 130 126 0,qx 131 126 1,qa 11 [.int .i64 (0),.nl 9,.nl 1,.nl 1,.nl 1,.nl 3,.nl 4,.int .i64 (0),.nl 5],
 qs 9 11 130,qm 12 131]
def QPf:LL:=[qm 132 12,qk .neq 133 132 0]
def QPg:LL:=[qm 134 12,qk .eql 135 134 3,qm 2 135]
def QPh(F:Fn):LL:=[qf 137 1 3,qf 138 0 137,qL 139 2 138,qf 140 6 1,qL 141 2 140,qc 142 (F "aa") [.t 141],qc 143 (F "aC") [.t 139,.t 142],qm 136 143,qx 144 136 0,qx 145 136 1,qx 146 136 2,qx 147 136 3,
 qa 13 [.nl 1,.nl 3],qa 14 [.nl 1,.nl 1],qa 15 [.nl 1,.nl 1],qs 2 13 144,qs 2 14 145,qs 2 15 146,qm 16 147]
def QPi(F:Fn):LL:=[qf 149 1 3,qf 150 0 149,qL 151 2 150,qL 152 2 13,qc 153 (F "bB") [.t 151,.t 152],qm 148 153,qx 154 148 0,qx 155 148 1,qm 17 154,qm 18 155]
def QPj:LL:=[qm 156 17,qz 157 156,qi 158 0]
def QPk:LL:=[qo .lss 159 158 157]
def QPl:LL:=[qm 160 158,qd 161 2 156 158,qL 162 2 161,qa 20 [.nl 1,.nl 1],qm 19 160,qs 2 20 162]
def QPm(F:Fn):LL:=[qm 163 18,qk .neq 164 163 0,qm 165 164,qg 165 false (qm 166 19),qg 165 false (qk .geq 167 166 40),qQ 168 165 167,qm 169 168,qg 169 false (qf 170 0 20),qg 169 false (ql 171 1 170),
 qg 169 false (qc 172 (F "v") [.t 171]),qg 169 false (qv 173 172),qQ 174 169 173,qm 175 174,qg 175 false (qf 176 1 20),qg 175 false (ql 177 1 176),qg 175 false (qc 178 (F "v") [.t 177]),
 qg 175 false (qv 179 178),qQ 180 175 179]
def QPn(F:Fn):LL:=[qL 182 25 3,qL 183 2 13,qL 184 2 20,qc 185 (F "bG") [.t 182,.t 183,.t 184],qm 181 185,qx 186 181 0,qx 187 181 1,qx 188 181 2,qa 21 [.nl 1,.nl 3],qa 22 [.nl 1,.nl 1],qs 2 21 186,
 qs 2 22 187,qm 23 188]
def QPo:LL:=[qm 189 23,qv 190 189]
def QPp(F:Fn):LL:=[qf 192 1 3,qf 193 0 192,qL 194 2 193,qL 195 9 11,qL 196 2 13,qL 197 2 20,qc 198 (F "j") [.t 194,.t 195,.t 196,.t 197],qm 191 198,qx 199 191 0,qx 200 191 1,qm 24 199,qm 25 200]
def QPq(F:Fn):LL:=[qL 202 2 5,qL 203 9 8,qL 204 2 21,qL 205 2 6,qL 206 2 22,qc 207 (F "n") [.t 205,.t 206],qc 208 (F "j") [.t 202,.t 203,.t 204,.t 207],qm 201 208,qx 209 201 0,qx 210 201 1,qm 26 209,
 qm 27 210]
def QPr:LL:=[qm 211 25,qk .neq 212 211 0,qm 213 212,qg 213 false (qm 214 27),qg 213 false (qk .neq 215 214 0),qQ 216 213 215,qm 217 216,qg 217 false (qm 218 24),qg 217 false (qm 219 26),
 ⟨some 220,.eqB true (.t 218) (.t 219),some (217,false)⟩,qQ 221 217 220]
def QPs:LL:=[qb 2 false]
def QPt:LL:=[qk .add 222 158 1,qm 158 222]
def QaO(F:Fn):LC:=QQ [.reg QPk [3,5,6,8,11,13,18,156,157,158,159],.cond (.t 159) .skip (.exit 0),.block 1 (QQ [.reg QPl [3,5,6,8,11,13,18,19,20,156,157,158],QQ [.reg (QPm F) [3,5,6,8,11,13,18,20,156,157,158,180],.cond (.t 180) (.exit 1) .skip],.reg (QPn F) [3,5,6,8,11,13,18,20,21,22,23,156,157,158],QQ [.reg QPo [3,5,6,8,11,13,18,20,21,22,156,157,158,190],.cond (.t 190) (.exit 1) .skip],.reg (QPp F) [3,5,6,8,11,13,18,21,22,24,25,156,157,158],.dreg [(0,none,[],true),(1,none,[],true),(2,none,[],true),(5,none,[0,1,2],false)] (QPq F) [3,5,6,8,11,13,18,24,25,26,27,156,157,158],.reg QPr [3,5,6,8,11,13,18,156,157,158,221],.cond (.t 221) (QQ [.reg QPs [2],.ret]) .skip]),.reg QPt [3,5,6,8,11,13,18,156,157,158]]
def QPu:LL:=[qb 2 true]
def Qm5(F:Fn):LC:=QQ [.reg QO0 [1],QQ [.reg (QO1 F) [1,72],.cond (.t 72) (QQ [.reg (QO2 F) [2],.ret]) .skip],.reg (QO3 F) [1,3],.reg QO4 [1,3,4],QQ [.reg QO5 [1,3,4,89],.cond (.t 89) (QQ [.reg QO6 [2],.ret]) .skip],.dreg [(0,none,[],true),(4,none,[0],false)] (QO7 F) [1,3,4,5,6,7],.reg (QO8 F) [1,3,4,5,6,7,8],QQ [.reg (QO9 F) [1,3,4,5,6,7,8,111],.cond (.t 111) (QQ [.reg QPa [2],.ret]) .skip],.reg (QPb F) [1,3,5,6,8,9,10],QQ [.reg QPc [1,3,5,6,8,9,10,123],.cond (.t 123) (QQ [.reg QPd [2],.ret]) .skip],.reg (QPe F) [1,3,5,6,8,11,12],QQ [.reg QPf [1,3,5,6,8,11,12,133],.cond (.t 133) (QQ [.reg QPg [2],.ret]) .skip],.dreg [(2,none,[],true),(5,none,[2],false)] (QPh F) [3,5,6,8,11,13],.reg (QPi F) [3,5,6,8,11,13,17,18],QQ [.reg QPj [3,5,6,8,11,13,18,156,157,158],.block 0 (.loop [3,5,6,8,11,13,18,156,157,158] (QaO F))],.reg QPu [2],.ret]
structure Mvd where
 r:Rul
 p:Int
 c:List Int
 g:Dr
 deriving DecidableEq,Inhabited
def mvD(x:Mvd):D:=.agg [.lst 1 (u8s x.r.d.n),.lst 3 (trs x.r.d.e),.int .u64 x.r.k,.lst 1 (u8s x.r.m),.int .u64 x.p,.lst 1 (u8s x.c),.lst 1 (u8s x.g.n),.lst 3 (trs x.g.e)]
structure Mvd.ok(x:Mvd):Prop where
 r:x.r.ok
 c:x.c.length≤QW
 b:∀v∈x.c,XF v
 g:x.g.ok
 n:x.g.n.length≤QW
 e:x.g.e.length≤QW
attribute [go_sem] QO0 QO1 QO2 QO3 QO4 QO5 QO6 QO7 QO8 QO9 QPa QPb QPc QPd QPe QPf QPg QPh QPi QPj QPk QPl QPm QPn QPo QPp QPq QPr QPs QPt QPu Qm5
section
variable (P:Program) (F:String→Nat)
def Qm6:Prop:=∀x:Mvd,x.ok→FC P (F "ap") [mvD x] (.bool true) []
end
section
variable {P:Program} {F:String→Nat} {α:Type}
theorem Q0x{s:Spn}{c:Cnd}(hs:SpnOk s)(ho:Q3 s.r c):(Z2 s c).2=3∨(Z2 s c=((lft c s).1,0)∧(lft c s).2=0∧XV (lft c s).1=0):=by
 have hE:∀c,XV c=0∨XV c=3:=fun c=>by
  unfold XV
  split
  ·exact .inl rfl
  ·exact .inr rfl
 unfold Z2
 by_cases h1:XV c=0
 ·rw[if_neg (by simp [h1])]
  obtain⟨h2,_⟩:=Qbc c s ho hs
  by_cases h3:(lft c s).2=0
  ·rw[if_neg (by simp [h3])]
   by_cases h4:XV (lft c s).1=0
   ·rw[if_neg (by simp [h4])]
    exact .inr ⟨rfl,h3,h4⟩
   ·rw[if_pos h4]
    rcases hE (lft c s).1 with h|h
    ·exact absurd h h4
    ·exact .inl h
  ·rw[if_pos h3]
   rcases h2 with h|h
   ·exact absurd h h3
   ·exact .inl h
 ·rw[if_pos h1]
  rcases hE c with h|h
  ·exact absurd h h1
  ·exact .inl h
set_option maxHeartbeats 4000000 in
set_option maxRecDepth 100000 in
theorem Q0y(hw:QmZ P F)(hm:QmT P F)(hp7:QeG P F)(hx7:QcR P F)(hm33:Qm4 P F)(hL:Qlk P F)(hsh:QlU P F)(htl:Qfw P F)(hm5:QdS P F)(hu:Qee P F)(hal:QkI P F)(hdi:QdX P F)(hbe:Qm0 P F)(hsa:Qfn P F)(hth:QdT P F)(x:Mvd)(hx:x.ok):
  W P (Qm5 F) (Done [.t 2] [] (.bool true) []) (init [mvD x]):=by
 refine QZ ?_
 have d0:decide ((0:Int)=0)=true:=rfl
 have d3:decide ((3:Int)=0)=false:=rfl
 have d33:decide ((3:Int)=3)=true:=rfl
 have rw0:FC P (F "T") [] (.bool true) []:=hw
 have u1:=Qaf x.r.d.n
 have u2:=QbD x.r.d.e
 have u3:=Qaf x.r.m
 have u4:=Qaf x.c
 have u5:=Qaf x.g.n
 have u6:=QbD x.g.e
 have b1:=hx.r.n
 have b2:=hx.r.e
 have b3:=hx.r.m
 have b4:=hx.c
 have b5:=hx.n
 have b6:=hx.e
 unfold QW at b1 b2 b3 b4 b5 b6
 by_cases a1:x.r.d.n.length≤3
 case neg=>
  have e1:decide ((3:Int)<x.r.d.n.length)=true:=Qd (by omega)
  simp only[mvD] at*
  simp(disch:=omega)only[go_sem,u1]
  refine QT rw0 ?_
  simp(disch:=omega)only[go_sem,u1,e1]
  refine QT rw0 ?_
  simp(disch:=omega)only[go_sem]
 have e1:decide ((3:Int)<x.r.d.n.length)=false:=Qc (by omega)
 by_cases a2:x.r.d.e.length≤2
 case neg=>
  have e2:decide ((2:Int)<x.r.d.e.length)=true:=Qd (by omega)
  simp only[mvD] at*
  simp(disch:=omega)only[go_sem]
  refine QT rw0 ?_
  simp(disch:=omega)only[go_sem,u1,u2,e1,e2]
  refine QT rw0 ?_
  simp(disch:=omega)only[go_sem]
 have e2:decide ((2:Int)<x.r.d.e.length)=false:=Qc (by omega)
 by_cases a3:x.r.m.length≤4
 case neg=>
  have e3:decide ((4:Int)<x.r.m.length)=true:=Qd (by omega)
  simp only[mvD] at*
  simp(disch:=omega)only[go_sem]
  refine QT rw0 ?_
  simp(disch:=omega)only[go_sem,u1,u2,u3,e1,e2,e3]
  refine QT rw0 ?_
  simp(disch:=omega)only[go_sem]
 have e3:decide ((4:Int)<x.r.m.length)=false:=Qc (by omega)
 by_cases a4:x.c.length≤12
 case neg=>
  have e4:decide ((12:Int)<x.c.length)=true:=Qd (by omega)
  simp only[mvD] at*
  simp(disch:=omega)only[go_sem]
  refine QT rw0 ?_
  simp(disch:=omega)only[go_sem,u1,u2,u3,u4,e1,e2,e3,e4]
  refine QT rw0 ?_
  simp(disch:=omega)only[go_sem]
 have e4:decide ((12:Int)<x.c.length)=false:=Qc (by omega)
 by_cases a5:x.g.n.length≤3
 case neg=>
  have e5:decide ((3:Int)<x.g.n.length)=true:=Qd (by omega)
  simp only[mvD] at*
  simp(disch:=omega)only[go_sem]
  refine QT rw0 ?_
  simp(disch:=omega)only[go_sem,u1,u2,u3,u4,u5,e1,e2,e3,e4,e5]
  refine QT rw0 ?_
  simp(disch:=omega)only[go_sem]
 have e5:decide ((3:Int)<x.g.n.length)=false:=Qc (by omega)
 by_cases a6:x.g.e.length≤3
 case neg=>
  have e6:decide ((3:Int)<x.g.e.length)=true:=Qd (by omega)
  simp only[mvD] at*
  simp(disch:=omega)only[go_sem]
  refine QT rw0 ?_
  simp(disch:=omega)only[go_sem,u1,u2,u3,u4,u5,u6,e1,e2,e3,e4,e5,e6]
  refine QT rw0 ?_
  simp(disch:=omega)only[go_sem]
 have e6:decide ((3:Int)<x.g.e.length)=false:=Qc (by omega)
 have r1:=hm x.r hx.r
 obtain⟨hs,l1,l2⟩:=QNU hx.r
 have hvl:QX (ruS x.r).l=0:=hs.k.v
 have hvr:QX (ruS x.r).r=0:=hs.i.ok.vb
 obtain⟨vr1,vr2,_⟩:=Q8 hvr
 generalize ruS x.r=s at*
 by_cases z:s.r.n.length≤4∧s.r.e.length≤3
 case neg=>
  by_cases z1:s.r.n.length≤4
  ·have f1:decide ((4:Int)<s.r.n.length)=false:=Qc (by omega)
   have f2:decide ((3:Int)<s.r.e.length)=true:=Qd (by omega)
   obtain⟨⟨ln,le⟩,⟨rn,re⟩,⟨kn,ke⟩,⟨i_n,i_e⟩⟩:=s
   simp only[mvD,rlD,ruD] at*
   simp(disch:=omega)only[go_sem]
   refine QT rw0 ?_
   simp(disch:=omega)only[go_sem,u1,u2,u3,u4,u5,u6,e1,e2,e3,e4,e5,e6]
   refine QT r1 ?_
   simp(disch:=omega)only[go_sem,f1,f2]
  ·have f1:decide ((4:Int)<s.r.n.length)=true:=Qd (by omega)
   obtain⟨⟨ln,le⟩,⟨rn,re⟩,⟨kn,ke⟩,⟨i_n,i_e⟩⟩:=s
   simp only[mvD,rlD,ruD] at*
   simp(disch:=omega)only[go_sem]
   refine QT rw0 ?_
   simp(disch:=omega)only[go_sem,u1,u2,u3,u4,u5,u6,e1,e2,e3,e4,e5,e6]
   refine QT r1 ?_
   simp(disch:=omega)only[go_sem,f1]
 obtain⟨z1,z2⟩:=z
 have f1:decide ((4:Int)<s.r.n.length)=false:=Qc (by omega)
 have f2:decide ((3:Int)<s.r.e.length)=false:=Qc (by omega)
 have r2:=hp7 s.r x.p hvr
 have hpk:=QDr (s:=x.p) hvr
 have hme:=Qak hpk
 have r3:=hx7 s.r (X8 s.r x.p) hpk.sm
 have ep:exR s.r (X8 s.r x.p)=(ptG s.r (X8 s.r x.p),X8 s.r x.p,0):=by unfold exR;rw[if_neg (by simp [validP_ok.2 hpk])]
 rw[ep] at r3
 have lm:=hpk.len
 generalize X8 s.r x.p=m at*
 generalize ptG s.r m=a at*
 have r4:=hm33 a x.c hme.ok.va hx.c hx.b
 obtain⟨hoc,hc1,hc2⟩:=Q0p (a:=a) hx.b hme.ok.va
 generalize QaM a x.c=c at*
 have r5:=hL a c (by omega) hme.ok.va hoc
 cases hli:QcZ a c with
 |false=>
  rw[hli] at r5
  rw[Q4] at r4 r5
  obtain⟨⟨ln,le⟩,⟨rn,re⟩,⟨kn,ke⟩,⟨i_n,i_e⟩⟩:=s
  obtain⟨an,ae⟩:=a
  obtain⟨mn,me⟩:=m
  simp only[mvD,rlD,ruD,gD,gA,mD,mA] at*
  simp(disch:=omega)only[go_sem]
  refine QT rw0 ?_
  simp(disch:=omega)only[go_sem,u1,u2,u3,u4,u5,u6,e1,e2,e3,e4,e5,e6]
  refine QT r1 ?_
  simp(disch:=omega)only[go_sem,f1,f2]
  refine QT r2 ?_
  simp(disch:=omega)only[go_sem]
  refine QT r3 ?_
  simp(disch:=omega)only[go_sem]
  refine QT r4 ?_
  simp(disch:=omega)only[go_sem,d0]
  refine QT r5 ?_
  simp(disch:=omega)only[go_sem,d0]
 |true=>
 rw[hli] at r5
 have r6:=hsh c a s.r m (by omega) (by omega) hoc hme
 rcases QJS hoc hme with h3|⟨h0,hkd,hsz,hov,_⟩
 ·have r6:FC P (F "O") [gD a,gD s.r,mD m,cnD c] (.tup [kD (0,[]),.int .i64 3]) []:=by
   have:=r6
   rw[h3,if_pos (by decide)] at this
   exact this
  rw[Q4] at r4 r5 r6
  obtain⟨⟨ln,le⟩,⟨rn,re⟩,⟨kn,ke⟩,⟨i_n,i_e⟩⟩:=s
  obtain⟨an,ae⟩:=a
  obtain⟨mn,me⟩:=m
  simp only[mvD,rlD,ruD,gD,gA,mD,mA,kD] at*
  simp(disch:=omega)only[go_sem]
  refine QT rw0 ?_
  simp(disch:=omega)only[go_sem,u1,u2,u3,u4,u5,u6,e1,e2,e3,e4,e5,e6]
  refine QT r1 ?_
  simp(disch:=omega)only[go_sem,f1,f2]
  refine QT r2 ?_
  simp(disch:=omega)only[go_sem]
  refine QT r3 ?_
  simp(disch:=omega)only[go_sem]
  refine QT r4 ?_
  simp(disch:=omega)only[go_sem,d0]
  refine QT r5 ?_
  simp(disch:=omega)only[go_sem,d0]
  refine QT r6 ?_
  simp(disch:=omega)only[go_sem,d3,d33]
 have r6:FC P (F "O") [gD a,gD s.r,mD m,cnD c] (.tup [cnD (shf c s.r m),.int .i64 0]) []:=by
  have:=r6
  rw[h0,if_neg (by decide),hkd] at this
  exact this
 have r7:=htl (bs []) (shf c s.r m) s hsz hov hs
 rcases Q0x hs hov with h3|⟨hR,hR0,hRl⟩
 ·have r7:FC P (F "q") [ruD (bs []) s,cnD (shf c s.r m)] (.tup [kD (0,[]),.int .i64 3]) []:=by
   have:=r7
   unfold lfD at this
   rw[h3,if_neg (by decide)] at this
   exact this
  generalize shf c s.r m=S at*
  rw[Q4] at r4 r5 r6 r7
  rw[Q4] at r6
  obtain⟨⟨ln,le⟩,⟨rn,re⟩,⟨kn,ke⟩,⟨i_n,i_e⟩⟩:=s
  obtain⟨an,ae⟩:=a
  obtain⟨mn,me⟩:=m
  simp only[mvD,rlD,ruD,gD,gA,mD,mA,kD] at*
  simp(disch:=omega)only[go_sem]
  refine QT rw0 ?_
  simp(disch:=omega)only[go_sem,u1,u2,u3,u4,u5,u6,e1,e2,e3,e4,e5,e6]
  refine QT r1 ?_
  simp(disch:=omega)only[go_sem,f1,f2]
  refine QT r2 ?_
  simp(disch:=omega)only[go_sem]
  refine QT r3 ?_
  simp(disch:=omega)only[go_sem]
  refine QT r4 ?_
  simp(disch:=omega)only[go_sem,d0]
  refine QT r5 ?_
  simp(disch:=omega)only[go_sem,d0]
  refine QT r6 ?_
  simp(disch:=omega)only[go_sem,d0]
  refine QT r7 ?_
  simp(disch:=omega)only[go_sem,d3,d33]
 rw[hR] at r7
 have r7:FC P (F "q") [ruD (bs []) s,cnD (shf c s.r m)] (.tup [cnD (lft (shf c s.r m) s).1,.int .i64 0]) []:=r7
 obtain⟨hol,_⟩:=(Qbc _ s hov hs).2 hR0
 have heq:=fun g q (hq:Emb s.l g q) e=>QZF (g:=g) (q:=q) hs hq hoc hme h0 hR0 e
 have hll:=Qdb (shf c s.r m) s
 have hbh:=fun g q (hq:Emb s.l g q) e=>(QLi (g:=g) (q:=q) hs hq e).1
 generalize shf c s.r m=S at*
 generalize (lft S s).1=T at*
 have hlc:XV c=0:=by unfold XV;rw[if_pos ⟨by omega,by omega⟩]
 have r8:=hm5 x.g hx.g hx.n hx.e
 have hvg:=Qq0 hx.g
 have r9:=hu s.l (Xt x.g)
 rw[Qjf hvl hvg] at r9
 obtain⟨lg1,lg2⟩:=QmU x.g
 rw[if_neg (by unfold Big;omega)] at r9
 generalize Xt x.g=y at*
 have r10:=hal s.l (unG s.l y)
 have hq:∀i:Nat,i<(Jy s.l (unG s.l y)).length→MOk s.l (unG s.l y) (gt (Jy s.l (unG s.l y)) i):=fun i hi=>mok.1 (Q0a (gt_mem (by omega) (by omega)))
 have hlen:=Q0b s.l (unG s.l y)
 have hpl:=Qsp (Jy s.l (unG s.l y))
 generalize QaH s.l (unG s.l y)=er at*
 generalize Jy s.l (unG s.l y)=L at*
 generalize unG s.l y=g at*
 have k1:=fun q (hq:Emb s.l g q)=>hbe (bs []) s g q hs hq
 have k2:=fun q (hq:Emb s.l g q)=>hsa s.l T g q (by omega) hRl hol hq
 have k3:=fun g' q (hq:Emb s.r g' q)=>hsa a c g' (QY m q) (by omega) hlc hoc (hme.comp hq)
 have k4:=fun g' q (hq:Emb s.r g' q)=>hth m q (by omega) (by omega) (fun v hv=>by
   obtain⟨j,hj,rfl⟩:=X2 hv
   have:=hme.bn (x:=(j:Int)) (Bd.of (by have:=hme.ok.ln;omega))
   rw[hq.ok.ln]
   exact this) (fun v hv=>by
   obtain⟨j,hj,rfl⟩:=X2 hv
   have:=hme.be (x:=(j:Int)) (Bd.of (by have:=hme.ok.le;omega))
   rw[hq.ok.le]
   exact this)
 have k5:=fun (q:Mo) (hq:MOk s.l g q)=>hdi q.n (by have:=hq.ln;unfold QW;omega)
 have k6:=fun (q:Mo) (hq:MOk s.l g q)=>hdi q.e (by have:=hq.le;unfold QW;omega)
 rw[Q4] at r4 r5 r6 r7
 rw[Q4] at r6 r7
 clear hw hm hp7 hx7 hm33 hL hsh htl hm5 hu hal hdi hbe hsa hth
 simp only[Q4] at k2 k3
 obtain⟨⟨ln,le⟩,⟨rn,re⟩,⟨kn,ke⟩,⟨i_n,i_e⟩⟩:=s
 obtain⟨an,ae⟩:=a
 obtain⟨mn,me⟩:=m
 obtain⟨yn,ye⟩:=y
 obtain⟨gn,ge⟩:=g
 simp only[mvD,rlD,ruD,drD,gD,gA,mD,mA,YT] at r1 r2 r3 r4 r5 r6 r7 r8 r9 r10 k1 k2 k3 k4 k5 k6 rw0 ⊢
 simp(disch:=omega)only[go_sem]
 refine QT rw0 ?_
 simp(disch:=omega)only[go_sem,u1,u2,u3,u4,u5,u6,e1,e2,e3,e4,e5,e6]
 refine QT r1 ?_
 simp(disch:=omega)only[go_sem,f1,f2]
 refine QT r2 ?_
 simp(disch:=omega)only[go_sem]
 refine QT r3 ?_
 simp(disch:=omega)only[go_sem]
 refine QT r4 ?_
 simp(disch:=omega)only[go_sem,d0]
 refine QT r5 ?_
 simp(disch:=omega)only[go_sem,d0]
 refine QT r6 ?_
 simp(disch:=omega)only[go_sem,d0]
 refine QT r7 ?_
 simp(disch:=omega)only[go_sem,d0]
 refine QT r8 ?_
 simp(disch:=omega)only[go_sem]
 refine QT r9 ?_
 simp(disch:=omega)only[go_sem]
 refine JV r10 ?_
 simp(disch:=omega)only[go_sem,hpl]
 refine Q5 (fun i:Nat=>⟨[(3,.pt 0 0),(5,.pt 3 0),(6,.pt 6 0),(8,.pt 7 0),(11,.pt 8 0),(13,.pt 11 0),(18,.int .i64 er),(156,.sl 12 0 L.length),(157,.int .i64 L.length),(158,.int .i64 i)],
  [(0,.box [.str (bs []),.lst 1 (QR ln),.lst 3 (eds le),.lst 4 [],.int .i64 0,.lst 5 [],.lst 1 (QR rn),.lst 3 (eds re),.lst 4 [],.int .i64 0,.lst 5 [],.lst 1 (QR kn),.lst 1 (QR ke),.lst 1 (QR i_n),.lst 1 (QR i_e),.bool true,.int .i64 0,.lst 9 [],.lst 1 [],.lst 1 [],.lst 1 [],.lst 3 [],.lst 4 [],.int .i64 0,.lst 5 []]),
   (1,.imm 1 (QR an)),(2,.imm 3 (eds ae)),(3,.box [.sl 1 0 an.length,.sl 2 0 ae.length]),(4,.imm 1 (QR mn)),(5,.imm 1 (QR me)),(6,.box [.sl 4 0 mn.length,.sl 5 0 me.length]),
   (7,.box [.int .i64 (Q9 c),.lst 9 (cds (QU c)),.lst 1 (QR (Xn c).n),.lst 1 (QR (Xn c).e),.lst 1 (QR (Xk c).n),.lst 3 (eds (Xk c).e),.lst 4 [],.int .i64 0,.lst 5 []]),
   (8,.box [.int .i64 (Q9 T),.lst 9 (cds (QU T)),.lst 1 (QR (Xn T).n),.lst 1 (QR (Xn T).e),.lst 1 (QR (Xk T).n),.lst 3 (eds (Xk T).e),.lst 4 [],.int .i64 0,.lst 5 []]),
   (9,.imm 1 (QR gn)),(10,.imm 3 (eds ge)),(11,.box [.sl 9 0 gn.length,.sl 10 0 ge.length]),(12,.arr 2 (pts L))],13⟩) (fun i=>i≤L.length) (fun i=>L.length-i) 0 ?_ ?_ ?_
 ·simp(disch:=omega)only[go_sem,hpl]
  rfl
 ·omega
 ·intro i hi
  by_cases h:i<L.length
  ·have g1:decide ((i:Int)<L.length)=true:=Qd (by omega)
   have hqi:=hq i h
   have za:=QYr (l:=L) h
   by_cases her:er=0
   case neg=>
    have g2:decide (er=0)=false:=Qc her
    simp(disch:=omega)only[go_sem,QaO,g1,hpl,za,g2]
    exact⟨i+1,by simp,by omega,by omega⟩
   have g2:decide (er=0)=true:=Qd her
   by_cases h40:i<40
   case neg=>
    have g3:decide ((40:Int)≤i)=true:=Qd (by omega)
    simp(disch:=omega)only[go_sem,QaO,g1,hpl,za,g2,g3]
    exact⟨i+1,by simp,by omega,by omega⟩
   have g3:decide ((40:Int)≤i)=false:=Qc (by omega)
   have v5:=k5 _ hqi
   have v6:=k6 _ hqi
   cases n1:Zg (gt L (i:Int)).n with
   |false=>
    rw[n1] at v5
    simp(disch:=omega)only[go_sem,QaO,g1,hpl,za,g2,g3]
    refine QT v5 ?_
    simp(disch:=omega)only[go_sem]
    exact⟨i+1,by simp,by omega,by omega⟩
   |true=>
   cases n2:Zg (gt L (i:Int)).e with
   |false=>
    rw[n1] at v5
    rw[n2] at v6
    simp(disch:=omega)only[go_sem,QaO,g1,hpl,za,g2,g3]
    refine QT v5 ?_
    simp(disch:=omega)only[go_sem]
    refine QT v6 ?_
    simp(disch:=omega)only[go_sem]
    exact⟨i+1,by simp,by omega,by omega⟩
   |true=>
   have hem:=Emb.mk' hqi (by simpa [Zg] using n1) (by simpa [Zg] using n2)
   rw[n1] at v5
   rw[n2] at v6
   have v1:=k1 _ hem
   have v2:=k2 _ hem
   have hb:=hbh _ _ hem
   have he:=heq _ _ hem
   clear hbh heq k1 k2 k5 k6 hq
   generalize bhR _ _ (gt L (i:Int))=B at*
   obtain⟨⟨xn,xe⟩,⟨cn,ce⟩,ok⟩:=B
   cases ok with
   |false=>
    simp only at v1
    simp(disch:=omega)only[go_sem,QaO,g1,hpl,za,g2,g3]
    refine QT v5 ?_
    simp(disch:=omega)only[go_sem]
    refine QT v6 ?_
    simp(disch:=omega)only[go_sem]
    refine QT v1 ?_
    simp(disch:=omega)only[go_sem]
    exact⟨i+1,by simp,by omega,by omega⟩
   |true=>
    replace hb:=hb rfl
    replace he:=he rfl
    have v3:=k3 _ _ hb
    have v4:=k4 _ _ hb
    simp only at v1 v3 v4 he
    rw[←he] at v3
    clear k3 k4 hb he
    generalize XA _ T (gt L (i:Int))=bb at*
    generalize QY _ _=tm at*
    obtain⟨tmn,tme⟩:=tm
    simp only at v3 v4
    simp(disch:=omega)only[go_sem,QaO,g1,hpl,za,g2,g3]
    refine QT v5 ?_
    simp(disch:=omega)only[go_sem]
    refine QT v6 ?_
    simp(disch:=omega)only[go_sem]
    refine QT v1 ?_
    simp(disch:=omega)only[go_sem]
    refine QT v2 ?_
    simp(disch:=omega)only[go_sem]
    refine QT v4 ?_
    simp(disch:=omega)only[go_sem]
    refine QT v3 ?_
    have gb:decide (bb=bb)=true:=Qd rfl
    simp(disch:=omega)only[go_sem,d0,gb]
    exact⟨i+1,by simp,by omega,by omega⟩
  ·have g1:decide ((i:Int)<L.length)=false:=Qc (by omega)
   simp(disch:=omega)only[go_sem,QaO,g1]
end
end Go.Am
