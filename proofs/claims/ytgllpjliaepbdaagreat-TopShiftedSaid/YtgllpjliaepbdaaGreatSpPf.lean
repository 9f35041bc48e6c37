/- Closing of parts; Dangling, Identified, Of and Check of complements. -/
import Derived.Test.YtgllpjliaepbdaaGreatSpPa
import Derived.Test.YtgllpjliaepbdaaGreatSpPb
import Derived.Test.YtgllpjliaepbdaaGreatSpPc
import Derived.Test.YtgllpjliaepbdaaGreatSpPd
import Derived.Test.YtgllpjliaepbdaaGreatSpPe
import Derived.Test.YtgllpjliaepbdaaGreatAmRu
namespace Go.Am
open Go
set_option linter.unusedVariables false
set_option linter.unusedSimpArgs false
attribute [local irreducible] W
def QBR:LL:=[qn 2 1]
def QBS:LL:=[qn 3 1]
def QBT:LL:=[qi 4 0]
def QBU:LL:=[qm 5 4,qm 6 0,qz 7 6,qo .lss 8 5 7]
def QBV:LL:=[qm 11 0,qm 12 4,qd 13 1 11 12,ql 14 1 13]
def QBW:LL:=[qm 15 3,qm 16 4,qQp 17 (.buildSl 1 8 (.int .i64 (0)) 1 [(0,.t 16)]),qp 18 1 8 15 17,qm 3 18]
def QBX:LL:=[qm 9 4,qk .add 10 9 1,qm 4 10]
def QeD:LC:=QQ [QQ [.reg QBU [0,3,4,8],.cond (.t 8) .skip (.exit 0)],.block 1 (QQ [.reg QBV [0,3,4,14],.cond (.t 14) (.reg QBW [0,3,4]) .skip]),.reg QBX [0,3,4]]
def QBY:LL:=[qm 19 3,qm 2 19]
def Qj2(F:Fn):LC:=QQ [.reg QBR [0],.reg QBS [0,3],QQ [.reg QBT [0,3,4],.block 0 (.loop [0,3,4] QeD)],.reg QBY [2],.ret]
def QXQ:Hints:=hn [] [(0,[0]),(1,[0,3]),(2,[0,3,4]),(3,[0,3,4,8]),(4,[0,3,4]),(5,[0,3,4,14]),(6,[0,3,4]),(7,[2])] [(3,[0,3,4])]
def QBZ:LL:=[qB 3 0,qa 6 [.nl 1,.nl 1]]
def QB0:LL:=[qQp 9 (.buildSl 1 1 (.bool false) 0 []),qm 10 1,qp 11 1 1 9 10,qm 7 11]
def QB1:LL:=[qi 8 0]
def QB2:LL:=[qm 12 8,qm 13 2,qz 14 13,qo .lss 15 12 14]
def QB3:LL:=[qm 18 2,qm 19 8,qd 20 1 18 19,ql 21 1 20]
def QB4:LL:=[qm 22 7,qf 23 1 3,ql 24 1 23,qm 25 8,qd 26 3 24 25,qf 27 1 26,ql 28 1 27,qm 29 7,qf 30 1 3,ql 31 1 30,qm 32 8,qd 33 3 31 32,qf 34 2 33,ql 35 1 34,qd 36 1 22 28,
 qQn (.store 1 (.t 36) (.k (.bool true))),qd 37 1 29 35,qQn (.store 1 (.t 37) (.k (.bool true)))]
def QB5:LL:=[qm 16 8,qk .add 17 16 1,qm 8 17]
def QeE:LC:=QQ [QQ [.reg QB2 [2,3,6,7,8,15],.cond (.t 15) .skip (.exit 0)],.block 1 (QQ [.reg QB3 [2,3,6,7,8,21],.cond (.t 21) (.dreg [] QB4 [2,3,6,7,8]) .skip]),.reg QB5 [2,3,6,7,8]]
def QB6(F:Fn):LL:=[qm 38 7,qc 39 (F "aK") [.t 38],qm 40 2,qc 41 (F "aK") [.t 40],qu 42 [.nl 1,.nl 1] [(0,1,.t 39),(1,1,.t 41)],qs 2 6 42]
def Qj3(F:Fn):LC:=QQ [.reg QBZ [1,2,3,6],.reg QB0 [2,3,6,7],QQ [.reg QB1 [2,3,6,7,8],.block 0 (.loop [2,3,6,7,8] QeE)],.reg (QB6 F) [6],.ret]
def QXR:Hints:=hn [] [(0,[1,2,3,6]),(1,[2,3,6,7]),(2,[2,3,6,7,8]),(3,[2,3,6,7,8,15]),(4,[2,3,6,7,8]),(5,[2,3,6,7,8,21]),(6,[2,3,6,7,8]),(7,[6])] [(3,[2,3,6,7,8])]
def QB7:LL:=[qB 4 0,qB 5 1,qB 6 2,qB 7 3,qa 8 [.nl 1,.nl 1],qi 9 0]
def QB8:LL:=[qL 14 2 4,qL 15 2 5,qL 16 2 6,qL 17 2 7,qu 18 [.nl 1,.nl 3,.nl 1,.nl 3,.nl 1,.nl 1,.nl 1,.nl 1] [(0,2,.t 14),(2,2,.t 15),(4,2,.t 16),(6,2,.t 17)],
 qa 10 [.nl 1,.nl 3,.nl 1,.nl 3,.nl 1,.nl 1,.nl 1,.nl 1],qs 8 10 18]
def QB9(F:Fn):LL:=[qL 19 8 10,qc 20 (F "bt") [.t 19],qm 11 20]
def QCa:LL:=[qm 21 11,qk .neq 22 21 0]
def QCb:LL:=[qu 23 [.nl 1,.nl 1] [],qm 24 11,qs 2 8 23,qm 9 24]
def QCc(F:Fn):LL:=[qL 26 8 10,qc 27 (F "by") [.t 26],qm 25 27,qx 28 25 0,qx 29 25 1,qm 12 28,qm 13 29]
def QCd:LL:=[qm 31 12,qz 32 31,qm 33 13,qz 34 33,qo .add 35 32 34,qk .gtr 36 35 0,qm 30 36]
def QCe:LL:=[qu 37 [.nl 1,.nl 1] [],qs 2 8 37,qi 9 15]
def QCf(F:Fn):LL:=[qL 39 8 10,qc 40 (F "bg") [.t 39],qz 41 40,qk .gtr 42 41 0,qm 38 42]
def QCg:LL:=[qu 43 [.nl 1,.nl 1] [],qs 2 8 43,qi 9 14]
def QCh(F:Fn):LL:=[qf 44 0 5,ql 45 1 44,qz 46 45,qf 47 0 7,ql 48 1 47,qf 49 0 6,ql 50 1 49,qc 51 (F "aP") [.t 46,.t 48,.t 50],qf 52 1 5,ql 53 1 52,qz 54 53,qf 55 1 7,ql 56 1 55,qf 57 1 6,ql 58 1 57,
 qc 59 (F "aP") [.t 54,.t 56,.t 58],qu 60 [.nl 1,.nl 1] [(0,1,.t 51),(1,1,.t 59)],qs 2 8 60,qi 9 0]
def Qj4(F:Fn):LC:=QQ [.reg QB7 [4,5,6,7,8],.reg QB8 [5,6,7,8,10],QQ [.reg (QB9 F) [5,6,7,8,10,11],.reg QCa [5,6,7,8,10,11,22],.cond (.t 22) (QQ [.reg QCb [8,9],.ret]) .skip],.reg (QCc F) [5,6,7,8,10,12,13],.block 0 (QQ [.reg QCd [5,6,7,8,10,30],.cond (.t 30) (QQ [.reg QCe [8,9],.ret]) (QQ [.reg (QCf F) [5,6,7,8,38],.cond (.t 38) (QQ [.reg QCg [8,9],.ret]) .skip])]),.dreg [(7,none,[],true),(9,(some 256),[7],false),(12,(some 2048),[7],false),(14,(some 8192),[7],false)] (QCh F) [8,9],.ret]
def QCi:LL:=[qB 4 0,qB 5 1,qB 6 2,qB 7 3,qa 8 [.nl 1,.nl 1],qi 9 0]
def QCj(F:Fn):LL:=[qL 11 2 4,qL 12 2 5,qL 13 2 6,qL 14 2 7,qc 15 (F "aR") [.t 11,.t 12,.t 13,.t 14],qm 10 15]
def QCk:LL:=[qm 16 10,qk .neq 17 16 0]
def QCl:LL:=[qu 18 [.nl 1,.nl 1] [],qm 19 10,qs 2 8 18,qm 9 19]
def QCm(F:Fn):LL:=[qf 20 0 7,ql 21 1 20,qf 22 0 6,ql 23 1 22,qc 24 (F "av") [.t 21,.t 23],qz 25 24,qf 26 1 7,ql 27 1 26,qf 28 1 6,ql 29 1 28,qc 30 (F "av") [.t 27,.t 29],qz 31 30,qo .add 32 25 31,
 qk .gtr 33 32 0]
def QCn:LL:=[qu 34 [.nl 1,.nl 1] [],qs 2 8 34,qi 9 15]
def QCo(F:Fn):LL:=[qL 35 2 4,qL 36 2 5,qL 37 2 6,qL 38 2 7,qc 39 (F "aS") [.t 35,.t 36,.t 37,.t 38],qz 40 39,qk .gtr 41 40 0]
def QCp:LL:=[qu 42 [.nl 1,.nl 1] [],qs 2 8 42,qi 9 14]
def QCq(F:Fn):LL:=[qf 43 0 5,ql 44 1 43,qz 45 44,qf 46 0 7,ql 47 1 46,qf 48 0 6,ql 49 1 48,qc 50 (F "M") [.t 47,.t 49],qc 51 (F "ar") [.t 45,.t 50],qf 52 1 5,ql 53 1 52,qz 54 53,qf 55 1 7,ql 56 1 55,
 qf 57 1 6,ql 58 1 57,qc 59 (F "M") [.t 56,.t 58],qc 60 (F "ar") [.t 54,.t 59],qu 61 [.nl 1,.nl 1] [(0,1,.t 51),(1,1,.t 60)],qs 2 8 61,qi 9 0]
def Qj5(F:Fn):LC:=QQ [.reg QCi [4,5,6,7,8],QQ [.reg (QCj F) [4,5,6,7,8,10],.reg QCk [4,5,6,7,8,10,17],.cond (.t 17) (QQ [.reg QCl [8,9],.ret]) .skip],QQ [.dreg [(4,none,[],true),(7,(some 64),[4],false),(9,(some 256),[4],false)] (QCm F) [4,5,6,7,8,33],.cond (.t 33) (QQ [.reg QCn [8,9],.ret]) .skip],QQ [.reg (QCo F) [5,6,7,8,41],.cond (.t 41) (QQ [.reg QCp [8,9],.ret]) .skip],.dreg [(1,none,[],true),(7,none,[1],true),(8,none,[],true),(10,(some 512),[7,8],true),(13,(some 4096),[7,8],false),(15,(some 16384),[7,8],false),(16,none,[10],false)] (QCq F) [8,9],.ret]
def X7(b:List Bool):List Int:=sel (fun k:Nat=>gt b k) b.length
def Qai(g:G)(bn be:List Bool):Mo:=⟨sel (fun k:Nat=>gt bn k||decide ((k:Int)∈YE g (X7 be))) bn.length,X7 be⟩
def cxR(x:Cx):Mo×Int:=if cxE x≠0 then (m0,cxE x) else if 0<(idL x.m.n x.k.n).length+(idL x.m.e x.k.e).length then (m0,15) else if 0<(Yu x).length then (m0,14) else (⟨X4 x.g.n.length (Xm x.m.n x.k.n),X4 x.g.e.length (Xm x.m.e x.k.e)⟩,0)
attribute [go_sem] QBR QBS QBT QBU QBV QBW QBX QBY Qj2 QBZ QB0 QB1 QB2 QB3 QB4 QB5 QB6 Qj3 QB7 QB8 QB9 QCa QCb QCc QCd QCe QCf QCg QCh Qj4 QCi QCj QCk QCl QCm QCn QCo QCp QCq Qj5
section
variable (P:Program) (F:String→Nat)
def Qj6:Prop:=∀b:List Bool,b.length≤1000→FC P (F "aK") [.lst 1 (bls b)] (.arr 1 (QR (X7 b))) []
def Qj7:Prop:=∀(g:G)(bn be:List Bool),QX g=0→bn.length=g.n.length→be.length=g.e.length→FC P (F "bv") [gD g,.lst 1 (bls bn),.lst 1 (bls be)] (mA (Qai g bn be)) []
def Qj8:Prop:=∀x:Cx,x.sm→FC P (F "bI") [gD x.l,gD x.g,mD x.k,mD x.m] (.tup [mA (cxR x).1,.int .i64 (cxR x).2]) []
def Qj9:Prop:=∀x:Cx,x.sm→FC P (F "bV") [gD x.l,gD x.g,mD x.k,mD x.m] (.tup [mA (cxR x).1,.int .i64 (cxR x).2]) []
end
section
variable {P:Program} {F:String→Nat} {α:Type}
theorem QXS(b:List Bool)(hb:b.length≤1000):W P (Qj2 F) (Done [.t 2] [] (.arr 1 (QR (X7 b))) []) (init [.lst 1 (bls b)]):=by
 refine QZ ?_
 have hM:X7 b=sel (fun k:Nat=>gt b k) b.length:=rfl
 have sl:=QbH (fun k:Nat=>gt b k)
 have ss:=QbG (fun k:Nat=>gt b k)
 have s0:=Qcz (fun k:Nat=>gt b k)
 rw[hM]
 clear hM
 generalize hS:sel (fun k:Nat=>gt b k)=S at*
 simp(disch:=omega)only[go_sem]
 refine Q5 (fun i:Nat=>⟨[(0,.lst 1 (bls b)),(3,.sl 0 0 (S i).length),(4,.int .i64 i)],[(0,.arr 1 (QR (S i)))],1⟩) (fun i=>i≤b.length) (fun i=>b.length-i) 0 ?_ ?_ ?_
 ·simp(disch:=omega)only[go_sem,s0,Zc]
  rfl
 ·simp
 ·intro i hi
  have sli:=sl i
  by_cases c:i<b.length
  ·have g1:decide ((i:Int)<b.length)=true:=Qd (by omega)
   have hs:=ss i
   generalize hb':gt b i=t at*
   cases t
   ·simp(disch:=omega)only[go_sem,QeD,g1,hb']
    exact⟨i+1,by simp [hs],by omega,by omega⟩
   ·simp(disch:=omega)only[go_sem,QeD,g1,hb']
    exact⟨i+1,by simp [hs],by omega,by omega⟩
  ·have g1:decide ((i:Int)<b.length)=false:=Qc (by omega)
   obtain rfl:i=b.length:=by omega
   simp(disch:=omega)only[go_sem,QeD,g1]
theorem QCr{b:List Bool}{x:Int}:x∈X7 b↔∃k:Nat,k<b.length∧gt b k=true∧x=k:=sel_mem
theorem markL_mem{b:List Bool}{k:Nat}:(k:Int)∈X7 b↔k<b.length∧gt b k=true:=sel_memN
set_option maxHeartbeats 1000000 in
theorem QXT(hm:Qj6 P F)(g:G)(bn be:List Bool)(hv:QX g=0)(h1:bn.length=g.n.length)(h2:be.length=g.e.length):W P (Qj3 F) (Done [.c 6 true 2] [] (mA (Qai g bn be)) []) (init [gD g,.lst 1 (bls bn),.lst 1 (bls be)]):=by
 refine QZ ?_
 have vs:=Q8 hv
 have hef:∀i:Nat,i<g.e.length→(0≤(gt g.e i).f∧(gt g.e i).f<g.n.length)∧(0≤(gt g.e i).o∧(gt g.e i).o<g.n.length):=fun i hi=>(Zt hv (i:=i) (by omega)).2
 have hL:Qai g bn be=⟨sel (fun k:Nat=>gt bn k||decide ((k:Int)∈YE g (X7 be))) bn.length,X7 be⟩:=rfl
 have r2:=hm be (by omega)
 have hm1:=fun z:List Bool=>hm z
 have ends:∀(i:Nat)(x:Int),x∈YE g ((X7 be).filter fun e=>decide (e<((i+1:Nat):Int)))↔x∈YE g ((X7 be).filter fun e=>decide (e<(i:Int)))∨(i<be.length∧gt be i=true∧((gt g.e i).f=x∨(gt g.e i).o=x)):=fun i x=>by
  rw[ends_mem,ends_mem]
  constructor
  ·rintro⟨e,he,hx⟩
   rw[List.mem_filter] at he
   obtain⟨he,hlt⟩:=he
   obtain⟨k,hk,hk2,rfl⟩:=sel_mem.1 he
   by_cases c:k=i
   ·subst c;exact .inr ⟨hk,hk2,hx⟩
   ·refine .inl ⟨k,List.mem_filter.2 ⟨he,?_⟩,hx⟩
    simp at hlt ⊢
    omega
  ·rintro (⟨e,he,hx⟩|⟨h3,h4,hx⟩)
   ·rw[List.mem_filter] at he
    refine⟨e,List.mem_filter.2 ⟨he.1,?_⟩,hx⟩
    have:=he.2
    simp at this ⊢
    omega
   ·exact⟨i,List.mem_filter.2 ⟨markL_mem.2 ⟨h3,h4⟩,by simp;omega⟩,hx⟩
 have endsZ:∀x:Int,¬x∈YE g ((X7 be).filter fun e=>decide (e<((0:Nat):Int))):=fun x h=>by
  obtain⟨e,he,_⟩:=ends_mem.1 h
  rw[List.mem_filter] at he
  obtain⟨k,_,_,rfl⟩:=sel_mem.1 he.1
  have:=he.2
  simp at this
  omega
 have endsF:(X7 be).filter (fun e=>decide (e<(be.length:Int)))=X7 be:=List.filter_eq_self.2 fun e he=>by
  obtain⟨k,hk,_,rfl⟩:=sel_mem.1 he
  simpa using hk
 rw[hL]
 clear hL
 obtain⟨gn,ge⟩:=g
 simp only[gD] at*
 simp(config:={maxSteps:=1000000}) (disch:=first|omega|(simp only[go_sem];omega))only[go_sem]
 refine Q5 (fun s:Nat×List Bool=>⟨[(2,.lst 1 (bls be)),(3,.pt 0 0),(6,.pt 3 0),(7,.sl 4 0 gn.length),(8,.int .i64 s.1)],[(0,.box [.lst 1 (QR gn),.lst 3 (eds ge)]),(1,.arr 1 []),(2,.arr 1 []),(3,.box [.sl 1 0 0,.sl 2 0 0]),(4,.arr 1 (bls s.2))],5⟩)
  (fun s=>s.1≤be.length∧s.2.length=gn.length∧∀k:Nat,k<gn.length→gt s.2 k=(gt bn k||decide ((k:Int)∈YE ⟨gn,ge⟩ ((X7 be).filter fun e=>decide (e<(s.1:Int)))))) (fun s=>be.length-s.1) (0,bn) ?_ ?_ ?_
 ·simp(config:={maxSteps:=1000000}) (disch:=first|omega|(simp only[go_sem];omega))only[go_sem,h1]
  rfl
 ·exact⟨by simp,h1,fun k hk=>by rw[Qc (endsZ k)];simp⟩
 ·rintro⟨i,z⟩ ⟨i1,i2,i3⟩
  simp only at i1 i2 i3
  by_cases c:i<be.length
  ·have g1:decide ((i:Int)<be.length)=true:=Qd (by omega)
   obtain⟨⟨f1,f2⟩,o1,o2⟩:=hef i (by omega)
   generalize hb':gt be i=t at*
   cases t
   ·simp(config:={maxSteps:=1000000}) (disch:=first|omega|(simp only[go_sem];omega))only[go_sem,QeE,g1,hb']
    refine⟨(i+1,z),by simp,⟨by simp only;omega,i2,fun k hk=>?_⟩,by simp only;omega⟩
    rw[i3 k hk]
    have:=ends i k
    rw[hb'] at this
    have this':(k:Int)∈YE ⟨gn,ge⟩ ((X7 be).filter fun e=>decide (e<((i+1:Nat):Int)))↔(k:Int)∈YE ⟨gn,ge⟩ ((X7 be).filter fun e=>decide (e<(i:Int))):=by rw[this];simp
    simp only
    rw[decide_eq_decide.2 this']
   ·simp(config:={maxSteps:=1000000}) (disch:=first|omega|(simp only[go_sem];omega))only[go_sem,QeE,g1,hb',i2]
    refine⟨(i+1,(z.set (gt ge i).f.toNat true).set (gt ge i).o.toNat true),by simp,⟨by simp only;omega,by simp [i2],fun k hk=>?_⟩,by simp only;omega⟩
    have:=ends i k
    rw[hb'] at this
    have this':(k:Int)∈YE ⟨gn,ge⟩ ((X7 be).filter fun e=>decide (e<((i+1:Nat):Int)))↔(k:Int)∈YE ⟨gn,ge⟩ ((X7 be).filter fun e=>decide (e<(i:Int)))∨((gt ge i).f=(k:Int)∨(gt ge i).o=(k:Int)):=by rw[this];simp [c]
    have hdec:decide ((k:Int)∈YE ⟨gn,ge⟩ ((X7 be).filter fun e=>decide (e<((i+1:Nat):Int))))=(decide ((k:Int)∈YE ⟨gn,ge⟩ ((X7 be).filter fun e=>decide (e<(i:Int))))||(decide ((gt ge i).f=(k:Int))||decide ((gt ge i).o=(k:Int)))):=by
     rw[Bool.eq_iff_iff]
     simp only[Qk,Qx]
     exact this'
    simp only
    rw[QcJ (by simp;omega),QcJ (by omega),i3 k hk,hdec]
    by_cases e1:(gt ge i).o.toNat=k
    ·have:(gt ge i).o=(k:Int):=by omega
     simp [e1,this,c]
    ·by_cases e2:(gt ge i).f.toNat=k
     ·have:(gt ge i).f=(k:Int):=by omega
      simp [e1,e2,this,c]
     ·have q1:¬(gt ge i).o=(k:Int):=by omega
      have q2:¬(gt ge i).f=(k:Int):=by omega
      simp [e1,e2,q1,q2]
  ·have g1:decide ((i:Int)<be.length)=false:=Qc (by omega)
   obtain rfl:i=be.length:=by omega
   rw[endsF] at i3
   have hz:X7 z=sel (fun k:Nat=>gt bn k||decide ((k:Int)∈YE ⟨gn,ge⟩ (X7 be))) bn.length:=by
    refine Qer (QaD _ _) (QaD _ _) fun x=>?_
    rw[QCr,sel_mem]
    constructor
    ·rintro⟨k,k1,k2,rfl⟩;exact⟨k,by omega,by rw[←i3 k (by omega)];exact k2,rfl⟩
    ·rintro⟨k,k1,k2,rfl⟩;exact⟨k,by omega,by rw[i3 k (by omega)];exact k2,rfl⟩
   have r1:=hm1 z (by omega)
   rw[hz] at r1
   generalize sel (fun k:Nat=>gt bn k||decide ((k:Int)∈YE ⟨gn,ge⟩ (X7 be))) bn.length=w1 at*
   simp(config:={maxSteps:=1000000}) (disch:=first|omega|(simp only[go_sem];omega))only[go_sem,QeE,g1,i2]
   refine QT r1 ?_
   simp(config:={maxSteps:=1000000}) (disch:=first|omega|(simp only[go_sem];omega))only[go_sem]
   refine QT r2 ?_
   simp(config:={maxSteps:=1000000}) (disch:=first|omega|(simp only[go_sem];omega))only[go_sem]
   try rfl
theorem QXU{g:G}{ns es:List Int}{bn be:List Bool}(h1:bn.length=g.n.length)(h2:be.length=g.e.length)(h3:∀k:Nat,k<g.n.length→gt bn k=decide ((k:Int)∈ns))(h4:∀k:Nat,k<g.e.length→gt be k=decide ((k:Int)∈es))(h5:∀x∈es,0≤x∧x<g.e.length):Qai g bn be=QcI g ns es:=by
 have hM:X7 be=sel (fun k:Nat=>decide ((k:Int)∈es)) g.e.length:=Qer (QaD _ _) (QaD _ _) fun x=>by
  rw[QCr,sel_mem]
  constructor
  ·rintro⟨k,k1,k2,rfl⟩;exact⟨k,by omega,by rw[←h4 k (by omega)];exact k2,rfl⟩
  ·rintro⟨k,k1,k2,rfl⟩;exact⟨k,by omega,by rw[h4 k (by omega)];exact k2,rfl⟩
 have hE:∀x,x∈YE g (X7 be)↔x∈YE g es:=fun x=>by
  rw[ends_mem,ends_mem,hM]
  constructor
  ·rintro⟨e,he,hx⟩
   obtain⟨k,_,k2,rfl⟩:=sel_mem.1 he
   exact⟨k,by simpa using k2,hx⟩
  ·rintro⟨e,he,hx⟩
   obtain⟨k,hk,rfl⟩:=gtI (h5 e he)
   exact⟨k,sel_memN.2 ⟨hk,by simpa using he⟩,hx⟩
 refine QXh (Qer (QaD _ _) (QaD _ _) fun x=>?_) hM
 rw[show (Qai g bn be).n=sel (fun k:Nat=>gt bn k||decide ((k:Int)∈YE g (X7 be))) bn.length from rfl,show (QcI g ns es).n=sel (fun k:Nat=>decide ((k:Int)∈ns)||decide ((k:Int)∈YE g es)) g.n.length from rfl,sel_mem,sel_mem]
 constructor
 ·rintro⟨k,k1,k2,rfl⟩
  refine⟨k,by omega,?_,rfl⟩
  rw[h3 k (by omega),decide_eq_decide.2 (hE k)] at k2
  exact k2
 ·rintro⟨k,k1,k2,rfl⟩
  refine⟨k,by omega,?_,rfl⟩
  rw[h3 k (by omega),decide_eq_decide.2 (hE k)]
  exact k2
theorem QeF{im kn:List Int}(h:im.length≤1000):(idL im kn).length≤1000000:=Qj1 h (Qf _)
theorem QCs(x:Cx):(Yu x).length≤x.g.e.length:=QbH _ _
set_option maxHeartbeats 1000000 in
theorem QXV(hg:QjQ P F)(hi:QjU P F)(hd:QjS P F)(hr:QjV P F)(x:Cx)(hs:x.sm):W P (Qj4 F) (Done [.c 8 true 2,.t 9] [] (.tup [mA (cxR x).1,.int .i64 (cxR x).2]) []) (init [gD x.l,gD x.g,mD x.k,mD x.m]):=by
 refine QZ ?_
 have r1:=hg x hs
 have hR:cxR x=if cxE x≠0 then (m0,cxE x) else if 0<(idL x.m.n x.k.n).length+(idL x.m.e x.k.e).length then (m0,15) else if 0<(Yu x).length then (m0,14) else (⟨X4 x.g.n.length (Xm x.m.n x.k.n),X4 x.g.e.length (Xm x.m.e x.k.e)⟩,0):=rfl
 by_cases c:cxE x=0
 case neg=>
  rw[if_pos c] at hR
  rw[hR]
  generalize cxE x=v at*
  simp only[gD,mD,cxD] at*
  simp(disch:=omega)only[go_sem]
  refine QT r1 ?_
  simp(disch:=omega)only[go_sem,c]
  simp [m0,mA,QR]
 rw[if_neg (by simp [c])] at hR
 obtain⟨hm,hk⟩:=QaF c
 have vl:=Q8 hm.va
 have vg:=Q8 hm.vb
 have l1:=hm.ln
 have l2:=hm.le
 have bd:=Z6 (mok.2 hm)
 have r2:=hi x c
 have r3:=hd x c
 have r4:=hr x.g.n.length x.m.n x.k.n (by omega) (by omega) hs.1 bd.1
 have r5:=hr x.g.e.length x.m.e x.k.e (by omega) (by omega) hs.2 bd.2
 have q1:=QeF (im:=x.m.n) (kn:=x.k.n) (by omega)
 have q2:=QeF (im:=x.m.e) (kn:=x.k.e) (by omega)
 have q3:=QCs x
 rw[c] at r1
 clear hm hk bd vl l1 l2 c
 generalize idL x.m.n x.k.n=i1 at*
 generalize idL x.m.e x.k.e=i2 at*
 generalize Yu x=d at*
 generalize X4 x.g.n.length (Xm x.m.n x.k.n)=s1 at*
 generalize X4 x.g.e.length (Xm x.m.e x.k.e)=s2 at*
 simp only[gD,mD,cxD] at*
 by_cases c1:0<i1.length+i2.length
 ·rw[if_pos c1] at hR
  rw[hR]
  have g1:decide ((0:Int)<(i1.length:Int)+i2.length)=true:=Qd (by omega)
  simp(disch:=omega)only[go_sem]
  refine QT r1 ?_
  simp(disch:=omega)only[go_sem]
  refine QT r2 ?_
  simp(disch:=omega)only[go_sem,g1]
  simp [m0,mA,QR]
 rw[if_neg c1] at hR
 have g1:decide ((0:Int)<(i1.length:Int)+i2.length)=false:=Qc (by omega)
 by_cases c2:0<d.length
 ·rw[if_pos c2] at hR
  rw[hR]
  have g2:decide ((0:Int)<(d.length:Int))=true:=Qd (by omega)
  simp(disch:=omega)only[go_sem]
  refine QT r1 ?_
  simp(disch:=omega)only[go_sem]
  refine QT r2 ?_
  simp(disch:=omega)only[go_sem,g1]
  refine QT r3 ?_
  simp(disch:=omega)only[go_sem,g2]
  simp [m0,mA,QR]
 rw[if_neg c2] at hR
 rw[hR]
 have g2:decide ((0:Int)<(d.length:Int))=false:=Qc (by omega)
 simp(disch:=omega)only[go_sem]
 refine QT r1 ?_
 simp(disch:=omega)only[go_sem]
 refine QT r2 ?_
 simp(disch:=omega)only[go_sem,g1]
 refine QT r3 ?_
 simp(disch:=omega)only[go_sem,g2]
 refine QT r4 ?_
 simp(disch:=omega)only[go_sem]
 refine QT r5 ?_
 simp(disch:=omega)only[go_sem]
 try rfl
set_option maxHeartbeats 1000000 in
theorem QXW(hg:QjW P F)(hi:QjY P F)(hd:QjX P F)(hgo:Qez P F)(hr:QjZ P F)(x:Cx)(hs:x.sm):W P (Qj5 F) (Done [.c 8 true 2,.t 9] [] (.tup [mA (cxR x).1,.int .i64 (cxR x).2]) []) (init [gD x.l,gD x.g,mD x.k,mD x.m]):=by
 refine QZ ?_
 have r1:=hg x hs
 have hR:cxR x=if cxE x≠0 then (m0,cxE x) else if 0<(idL x.m.n x.k.n).length+(idL x.m.e x.k.e).length then (m0,15) else if 0<(Yu x).length then (m0,14) else (⟨X4 x.g.n.length (Xm x.m.n x.k.n),X4 x.g.e.length (Xm x.m.e x.k.e)⟩,0):=rfl
 by_cases c:cxE x=0
 case neg=>
  rw[if_pos c] at hR
  rw[hR]
  generalize cxE x=v at*
  simp only[gD,mD,cxD] at*
  simp(disch:=omega)only[go_sem]
  refine QT r1 ?_
  simp(disch:=omega)only[go_sem,c]
  simp [m0,mA,QR]
 rw[if_neg (by simp [c])] at hR
 obtain⟨hm,hk⟩:=QaF c
 have vl:=Q8 hm.va
 have vg:=Q8 hm.vb
 have l1:=hm.ln
 have l2:=hm.le
 have r2:=hi x.m.n x.k.n (by omega) hs.1
 have r2b:=hi x.m.e x.k.e (by omega) hs.2
 have r3:=hd x c
 have g3:=hgo x.m.n x.k.n (by omega) hs.1
 have g4:=hgo x.m.e x.k.e (by omega) hs.2
 have gl1:=QeC x.m.n x.k.n
 have gl2:=QeC x.m.e x.k.e
 have r4:=hr x.g.n.length (Xm x.m.n x.k.n) (by omega) (by unfold QW;omega)
 have r5:=hr x.g.e.length (Xm x.m.e x.k.e) (by omega) (by unfold QW;omega)
 have q1:=QeF (im:=x.m.n) (kn:=x.k.n) (by omega)
 have q2:=QeF (im:=x.m.e) (kn:=x.k.e) (by omega)
 have q3:=QCs x
 rw[c] at r1
 clear hm hk vl l1 l2 c
 generalize idL x.m.n x.k.n=i1 at*
 generalize idL x.m.e x.k.e=i2 at*
 generalize Yu x=d at*
 generalize X4 x.g.n.length (Xm x.m.n x.k.n)=s1 at*
 generalize X4 x.g.e.length (Xm x.m.e x.k.e)=s2 at*
 generalize Xm x.m.n x.k.n=go1 at*
 generalize Xm x.m.e x.k.e=go2 at*
 simp only[gD,mD,cxD] at*
 by_cases c1:0<i1.length+i2.length
 ·rw[if_pos c1] at hR
  rw[hR]
  have g1:decide ((0:Int)<(i1.length:Int)+i2.length)=true:=Qd (by omega)
  simp(disch:=omega)only[go_sem]
  refine QT r1 ?_
  simp(disch:=omega)only[go_sem]
  refine QT r2 ?_
  simp(disch:=omega)only[go_sem]
  refine QT r2b ?_
  simp(disch:=omega)only[go_sem,g1]
  simp [m0,mA,QR]
 rw[if_neg c1] at hR
 have g1:decide ((0:Int)<(i1.length:Int)+i2.length)=false:=Qc (by omega)
 by_cases c2:0<d.length
 ·rw[if_pos c2] at hR
  rw[hR]
  have g2:decide ((0:Int)<(d.length:Int))=true:=Qd (by omega)
  simp(disch:=omega)only[go_sem]
  refine QT r1 ?_
  simp(disch:=omega)only[go_sem]
  refine QT r2 ?_
  simp(disch:=omega)only[go_sem]
  refine QT r2b ?_
  simp(disch:=omega)only[go_sem,g1]
  refine QT r3 ?_
  simp(disch:=omega)only[go_sem,g2]
  simp [m0,mA,QR]
 rw[if_neg c2] at hR
 rw[hR]
 have g2:decide ((0:Int)<(d.length:Int))=false:=Qc (by omega)
 simp(disch:=omega)only[go_sem]
 refine QT r1 ?_
 simp(disch:=omega)only[go_sem]
 refine QT r2 ?_
 simp(disch:=omega)only[go_sem]
 refine QT r2b ?_
 simp(disch:=omega)only[go_sem,g1]
 refine QT r3 ?_
 simp(disch:=omega)only[go_sem,g2]
 refine QT g3 ?_
 simp(disch:=omega)only[go_sem]
 refine QT r4 ?_
 simp(disch:=omega)only[go_sem]
 refine QT g4 ?_
 simp(disch:=omega)only[go_sem]
 refine QT r5 ?_
 simp(disch:=omega)only[go_sem]
 try rfl
end
section
theorem danL_mem{x:Cx}{d:Int}:d∈Yu x↔∃k:Nat,k<x.g.e.length∧Zk x.g (Xm x.m.n x.k.n) x.m.e k=true∧d=k:=sel_mem
section
variable {x:Cx}
end
end
theorem QXX(l:List Int)(a b:Int):QR l++[.int .i64 a,.int .i64 b]=QR (l++[a,b]):=by simp [QR]
attribute [go_sem] QXX
section
variable (P:Program) (F:String→Nat)
end
section
variable {P:Program} {F:String→Nat} {α:Type}
end
def QCt:LL:=[qB 2 0,qa 4 [.nl 1,.nl 3],qa 5 [.nl 1,.nl 1]]
def QCu(F:Fn):LL:=[qm 20 1,qc 21 (F "bm") [.t 20],qm 6 21]
def QCv(F:Fn):LL:=[qf 22 0 2,ql 23 1 22,qz 24 23,qc 25 (F "F") [.t 24],qm 7 25]
def QCw:LL:=[qi 8 1]
def QCx:LL:=[qm 26 8,qf 27 0 2,ql 28 1 27,qz 29 28,qo .lss 30 26 29]
def QCy:LL:=[qm 33 6,qm 34 8,qm 35 6,qz 36 35,qo .rem 37 34 36,qd 38 1 33 37,ql 39 1 38,qm 40 8,qk .add 41 40 1,qo .rem 42 39 41,qm 9 42]
def QCz:LL:=[qm 43 9,qm 44 8,qo .lss 45 43 44,qm 46 45,qg 46 true (qf 47 0 2),qg 46 true (ql 48 1 47),qg 46 true (qm 49 9),qg 46 true (qd 50 1 48 49),qg 46 true (ql 51 1 50),
 qg 46 true (qf 52 0 2),qg 46 true (ql 53 1 52),qg 46 true (qm 54 8),qg 46 true (qd 55 1 53 54),qg 46 true (ql 56 1 55),qg 46 true (qo .eql 57 51 56),qP 58 46 57]
def QCA(F:Fn):LL:=[qm 59 7,qm 60 9,qm 61 8,qc 62 (F "aJ") [.t 59,.t 60,.t 61],qm 7 62]
def QCB:LL:=[qm 31 8,qk .add 32 31 1,qm 8 32]
def QcO(F:Fn):LC:=QQ [QQ [.reg QCx [2,4,5,6,7,8,30],.cond (.t 30) .skip (.exit 0)],.block 1 (QQ [.reg QCy [2,4,5,6,7,8,9],.dreg [] QCz [2,4,5,6,7,8,9,58],.cond (.t 58) (.reg (QCA F) [2,4,5,6,7,8]) .skip]),.reg QCB [2,4,5,6,7,8]]
def QCC(F:Fn):LL:=[qm 64 7,qc 65 (F "P") [.t 64],qm 63 65,qx 66 63 0,qx 67 63 1,qx 68 63 2,qm 10 66,qm 11 67,qm 12 68]
def QCD:LL:=[qm 69 11,qQp 70 (.makeSl 1 8 (.int .i64 (0)) (.t 69)),qu 71 [.nl 1,.nl 3] [(0,1,.t 70)],qa 13 [.nl 1,.nl 3],qs 2 13 71]
def QCE:LL:=[qm 72 10,qu 73 [.nl 1,.nl 1] [(0,1,.t 72)],qa 14 [.nl 1,.nl 1],qs 2 14 73]
def QCF:LL:=[qi 15 0]
def QCG:LL:=[qm 74 15,qf 75 0 2,ql 76 1 75,qz 77 76,qo .lss 78 74 77]
def QCH:LL:=[qf 81 0 13,ql 82 1 81,qm 83 10,qm 84 15,qd 85 1 83 84,ql 86 1 85,qf 87 0 2,ql 88 1 87,qm 89 15,qd 90 1 88 89,ql 91 1 90,qd 92 1 82 86,qs 1 92 91]
def QCI:LL:=[qm 79 15,qk .add 80 79 1,qm 15 80]
def Qka:LC:=QQ [QQ [.reg QCG [2,4,5,6,10,13,14,15,78],.cond (.t 78) .skip (.exit 2)],.block 3 (.dreg [] QCH [2,4,5,6,10,13,14,15]),.reg QCI [2,4,5,6,10,13,14,15]]
def QCJ:LL:=[qi 16 0]
def QCK:LL:=[qm 93 16,qf 94 1 2,ql 95 1 94,qz 96 95,qo .lss 97 93 96]
def QCL:LL:=[qf 100 1 2,ql 101 1 100,qm 102 16,qd 103 3 101 102,qf 104 0 103,ql 105 1 104,qm 106 10,qf 107 1 2,ql 108 1 107,qm 109 16,qd 110 3 108 109,qf 111 1 110,ql 112 1 111,qd 113 1 106 112,
 ql 114 1 113,qm 115 10,qf 116 1 2,ql 117 1 116,qm 118 16,qd 119 3 117 118,qf 120 2 119,ql 121 1 120,qd 122 1 115 121,ql 123 1 122,
 qu 124 [.int .i64 (0),.int .i64 (0),.int .i64 (0)] [(0,1,.t 105),(1,1,.t 114),(2,1,.t 123)],qa 17 [.int .i64 (0),.int .i64 (0),.int .i64 (0)],qs 3 17 124]
def QCM:LL:=[qi 18 (-1)]
def QCN:LL:=[qi 19 0]
def QCO:LL:=[qm 125 19,qf 126 1 13,ql 127 1 126,qz 128 127,qo .lss 129 125 128]
def QCP:LL:=[qf 132 1 13,ql 133 1 132,qm 134 19,qd 135 3 133 134,qL 136 3 135,qL 137 3 17,qQp 138 (.eqA 3 false (.t 136) (.t 137)),qm 139 138,qg 139 true (qm 140 6),
 qg 139 true (qm 141 16),qg 139 true (qm 142 19),qg 139 true (qo .add 143 141 142),qg 139 true (qm 144 6),qg 139 true (qz 145 144),qg 139 true (qo .rem 146 143 145),
 qg 139 true (qd 147 1 140 146),qg 139 true (ql 148 1 147),qg 139 true (qk .rem 149 148 2),qg 139 true (qk .eql 150 149 0),qP 151 139 150]
def QCQ:LL:=[qm 152 19,qm 18 152]
def QCR:LL:=[qm 130 19,qk .add 131 130 1,qm 19 131]
def Qb1:LC:=QQ [QQ [.reg QCO [2,4,5,6,10,13,14,16,17,18,19,129],.cond (.t 129) .skip (.exit 6)],.block 7 (QQ [.dreg [] QCP [2,4,5,6,10,13,14,16,17,18,19,151],.cond (.t 151) (.reg QCQ [2,4,5,6,10,13,14,16,17,18,19]) .skip]),.reg QCR [2,4,5,6,10,13,14,16,17,18,19]]
def QCS:LL:=[qm 153 18,qk .lss 154 153 0]
def QCT:LL:=[qf 155 1 13,ql 156 1 155,qz 157 156,qm 18 157]
def QCU:LL:=[qf 158 1 13,ql 159 1 158,qL 160 3 17,qQp 161 (.buildSl 3 24 (.agg [.int .i64 (0),.int .i64 (0),.int .i64 (0)]) 1 [(0,.t 160)]),qp 162 3 24 159 161,qf 163 1 13,
 qs 1 163 162]
def QCV:LL:=[qf 164 1 14,ql 165 1 164,qm 166 18,qQp 167 (.buildSl 1 8 (.int .i64 (0)) 1 [(0,.t 166)]),qp 168 1 8 165 167,qf 169 1 14,qs 1 169 168]
def QCW:LL:=[qm 98 16,qk .add 99 98 1,qm 16 99]
def Qkb:LC:=QQ [QQ [.reg QCK [2,4,5,6,10,13,14,16,97],.cond (.t 97) .skip (.exit 4)],.block 5 (QQ [.dreg [] QCL [2,4,5,6,10,13,14,16,17],.reg QCM [2,4,5,6,10,13,14,16,17,18],QQ [.reg QCN [2,4,5,6,10,13,14,16,17,18,19],.block 6 (.loop [2,4,5,6,10,13,14,16,17,18,19] Qb1)],QQ [.reg QCS [2,4,5,6,10,13,14,16,17,18,154],.cond (.t 154) (QQ [.reg QCT [2,4,5,6,10,13,14,16,17,18],.reg QCU [2,4,5,6,10,13,14,16,18]]) .skip],.reg QCV [2,4,5,6,10,13,14,16]]),.reg QCW [2,4,5,6,10,13,14,16]]
def QCX:LL:=[qL 170 2 13,qL 171 2 14,qs 2 4 170,qs 2 5 171]
def Qkc(F:Fn):LC:=QQ [.reg QCt [1,2,4,5],.reg (QCu F) [2,4,5,6],.reg (QCv F) [2,4,5,6,7],QQ [.reg QCw [2,4,5,6,7,8],.block 0 (.loop [2,4,5,6,7,8] (QcO F))],.reg (QCC F) [2,4,5,6,10,11],.reg QCD [2,4,5,6,10,13],.reg QCE [2,4,5,6,10,13,14],QQ [.reg QCF [2,4,5,6,10,13,14,15],.block 2 (.loop [2,4,5,6,10,13,14,15] Qka)],QQ [.reg QCJ [2,4,5,6,10,13,14,16],.block 4 (.loop [2,4,5,6,10,13,14,16] Qkb)],.dreg [(1,none,[],true),(2,none,[1],false)] QCX [4,5],.ret]
def QXY:Hints:=hn [] [(0,[1,2,4,5]),(1,[2,4,5,6]),(2,[2,4,5,6,7]),(3,[2,4,5,6,7,8]),(4,[2,4,5,6,7,8,30]),(5,[2,4,5,6,7,8]),(6,[2,4,5,6,7,8,9]),(7,[2,4,5,6,7,8,9,58]),(8,[2,4,5,6,7,8]),(9,[2,4,5,6,10,11]),(10,[2,4,5,6,10,13]),(11,[2,4,5,6,10,13,14]),(12,[2,4,5,6,10,13,14,15]),(13,[2,4,5,6,10,13,14,15,78]),(14,[2,4,5,6,10,13,14,15]),(15,[2,4,5,6,10,13,14,15]),(16,[2,4,5,6,10,13,14,16]),(17,[2,4,5,6,10,13,14,16,97]),(18,[2,4,5,6,10,13,14,16]),(19,[2,4,5,6,10,13,14,16,17]),(20,[2,4,5,6,10,13,14,16,17,18]),(21,[2,4,5,6,10,13,14,16,17,18,19]),(22,[2,4,5,6,10,13,14,16,17,18,19,129]),(23,[2,4,5,6,10,13,14,16,17,18,19]),(24,[2,4,5,6,10,13,14,16,17,18,19,151]),(25,[2,4,5,6,10,13,14,16,17,18,19]),(26,[2,4,5,6,10,13,14,16,17,18,154]),(27,[2,4,5,6,10,13,14,16,17,18]),(28,[2,4,5,6,10,13,14,16,18]),(29,[2,4,5,6,10,13,14,16]),(30,[4,5])] [(4,[2,4,5,6,7,8]),(13,[2,4,5,6,10,13,14,15]),(17,[2,4,5,6,10,13,14,16]),(22,[2,4,5,6,10,13,14,16,17,18,19])]
attribute [go_sem] QCt QCu QCv QCw QCx QCy QCz QCA QCB QCC QCD QCE QCF QCG QCH QCI QCJ QCK QCL QCM QCN QCO QCP QCQ QCR QCS QCT QCU QCV QCW QCX Qkc
section
variable (P:Program) (F:String→Nat)
def Qkd:Prop:=∀(g:G)(l:List Int),QX g=0→l.length≤2000000→(∀v∈l,XF v)→FC P (F "bl") [gD g,.lst 1 (u8s l)] (.tup [gA (imG g l),mA (J2 g l)]) []
end
section
variable {P:Program} {F:String→Nat} {α:Type}
theorem QXZ{l:List Int}(h:l.length≤2000000):(YD l).length≤2000000:=by
 unfold YD
 split
 ·simp
 ·exact h
set_option maxRecDepth 100000 in
set_option maxHeartbeats 4000000 in
theorem QX0(hn:Qh2 P F)(hfi:QcE P F)(hm:Qd3 P F)(hq:Qd4 P F)(g:G)(l:List Int)(hv:QX g=0)(hl:l.length≤2000000)(hb:∀v∈l,XF v):
  W P (Qkc F) (Done [.c 4 true 2,.c 5 true 2] [] (.tup [gA (imG g l),mA (J2 g l)]) []) (init [gD g,.lst 1 (u8s l)]):=by
 refine QZ ?_
 have r1:=hn l hl hb
 have vs:=Q8 hv
 have r2:=hfi g.n.length (by omega)
 have hG:imG g l=⟨Zu g (YQ g l) (J1 g l) g.n.length,(XO g (YQ g l) (YD l) g.e.length).1⟩:=rfl
 have hM:J2 g l=⟨YQ g l,(XO g (YQ g l) (YD l) g.e.length).2⟩:=rfl
 have hP:QaC g l=part g (YD l) (g.n.length-1):=rfl
 have hQV:QV g g.n.length (YQ g l,J1 g l):=Qd1 (QcC (QbK l) (QbL hb) _ (Qf _)) _ (Qf _)
 have hQ:(quo (part g (YD l) (g.n.length-1)) g.n.length)=(YQ g l,J1 g l):=rfl
 have hpv:∀k:Nat,k≤g.n.length-1→PV g (part g (YD l) k):=QcC (QbK l) (QbL hb)
 have hkb:=Qs9 (QbK l) (QbL hb)
 have hcl:=QbK l
 have hcm:=QXZ hl
 have hcb:=QbL hb
 have hEV:∀n:Nat,n≤g.e.length→EV g (YQ g l) (J1 g l) n (XO g (YQ g l) (YD l) n):=Qd2 hv hQV.b
 generalize imG g l=ig at*
 generalize J2 g l=im at*
 generalize QaC g l=ip at*
 generalize YQ g l=q at*
 generalize J1 g l=qc at*
 generalize YD l=c at*
 have en:g.n=g.n:=rfl
 obtain⟨gn,ge⟩:=g
 simp only[gD,gA,mA] at*
 simp(disch:=omega)only[go_sem]
 refine QT r1 ?_
 simp(disch:=omega)only[go_sem]
 refine QT r2 ?_
 simp(disch:=omega)only[go_sem]
 refine Q5 (fun k:Nat=>⟨[(2,.pt 0 0),(4,.pt 3 0),(5,.pt 6 0),(6,.sl 7 0 c.length),(7,.sl 8 0 gn.length),(8,.int .i64 ((k:Int)+1))],
  [(0,.box [.lst 1 (QR gn),.lst 3 (eds ge)]),(1,.arr 1 []),(2,.arr 3 []),(3,.box [.sl 1 0 0,.sl 2 0 0]),(4,.arr 1 []),(5,.arr 1 []),(6,.box [.sl 4 0 0,.sl 5 0 0]),(7,.arr 1 (QR c)),(8,.arr 1 (QR (part ⟨gn,ge⟩ c k)))],9⟩)
  (fun k=>k≤gn.length-1) (fun k=>gn.length-k) 0 ?_ ?_ ?_
 ·simp(disch:=omega)only[go_sem,part]
  simp only[Xh]
  rfl
 ·omega
 ·intro k hk
  have pv:=hpv k hk
  have hpl:=pv.l
  simp only at hpl
  by_cases f:k+1<gn.length
  ·have g1:decide ((k:Int)+1<gn.length)=true:=Qd (by omega)
   have b1:=Zq (x:=(k:Int)+1) (m:=(c.length:Int)) (by omega) (by omega)
   have b2:=hkb (k+1)
   have z1:¬((c.length:Int)=0):=by omega
   have z2:¬((k:Int)+1+1=0):=by omega
   have hky:(gt c (((k:Int)+1).tmod c.length)).tmod ((k:Int)+1+1)=Z7 c (k+1):=rfl
   have hs:part ⟨gn,ge⟩ c (k+1)=if Z7 c (k+1)<((k:Int)+1)∧gt gn (Z7 c (k+1))=gt gn ((k:Int)+1) then Yq (part ⟨gn,ge⟩ c k) (Z7 c (k+1)) ((k:Int)+1) else part ⟨gn,ge⟩ c k:=rfl
   generalize Z7 c (k+1)=ky at*
   generalize hkd:((k:Int)+1).tmod c.length=kd at*
   generalize part ⟨gn,ge⟩ c k=p at*
   generalize hp':part ⟨gn,ge⟩ c (k+1)=p' at*
   by_cases c1:ky<(k:Int)+1
   ·have g2:decide (ky<(k:Int)+1)=true:=Qd c1
    by_cases c2:gt gn ky=gt gn ((k:Int)+1)
    ·have g3:decide (gt gn ky=gt gn ((k:Int)+1))=true:=Qd c2
     rw[if_pos ⟨c1,c2⟩] at hs
     obtain⟨m,rfl⟩:∃m:Nat,ky=m:=⟨ky.toNat,by omega⟩
     have r:=hm p m (k+1) (by omega) (by omega) (by omega)
     rw[show ((k+1:Nat):Int)=(k:Int)+1 from rfl] at r
     have ml:=Qd0 p m ((k:Int)+1)
     rw[←hs] at r ml
     clear hs
     simp(disch:=omega)only[go_sem,QcO,g1,g2,g3,z1,z2,hkd,hky]
     refine QT r ?_
     simp(disch:=omega)only[go_sem,ml,hpl]
     exact⟨k+1,by simp [hp'],by omega,by omega⟩
    ·have g3:decide (gt gn ky=gt gn ((k:Int)+1))=false:=Qc c2
     rw[if_neg (fun h=>c2 h.2)] at hs
     subst hs
     simp(disch:=omega)only[go_sem,QcO,g1,g2,g3,z1,z2,hkd,hky]
     exact⟨k+1,by simp [hp'],by omega,by omega⟩
   ·have g2:decide (ky<(k:Int)+1)=false:=Qc c1
    rw[if_neg (fun h=>c1 h.1)] at hs
    subst hs
    simp(disch:=omega)only[go_sem,QcO,g1,g2,z1,z2,hkd,hky]
    exact⟨k+1,by simp [hp'],by omega,by omega⟩
  ·have g1:decide ((k:Int)+1<gn.length)=false:=Qc (by omega)
   obtain rfl:k=gn.length-1:=by omega
   have r3:=hq (part ⟨gn,ge⟩ c (gn.length-1)) ⟨by omega,fun i hi=>⟨(pv.h i (by simp only;omega)).1,(pv.h i (by simp only;omega)).2.1⟩⟩
   rw[hpl] at r3
   rw[hQ] at r3
   simp only at r3
   have hql:=hQV.l
   have hqb:=hQV.b
   have hqc:=hQV.c
   simp only at hql hqb hqc
   clear hQ hkb hpv
   generalize part ⟨gn,ge⟩ c (gn.length-1)=p at*
   simp(disch:=omega)only[go_sem,QcO,g1,hpl]
   refine QT r3 ?_
   simp(disch:=omega)only[go_sem,hql]
   have ol:=QcD ⟨gn,ge⟩ q qc
   refine Q5 (fun i:Nat=>⟨[(2,.pt 0 0),(4,.pt 3 0),(5,.pt 6 0),(6,.sl 7 0 c.length),(10,.sl 8 0 gn.length),(13,.pt 11 0),(14,.pt 13 0),(15,.int .i64 i)],
    [(0,.box [.lst 1 (QR gn),.lst 3 (eds ge)]),(1,.arr 1 []),(2,.arr 3 []),(3,.box [.sl 1 0 0,.sl 2 0 0]),(4,.arr 1 []),(5,.arr 1 []),(6,.box [.sl 4 0 0,.sl 5 0 0]),(7,.arr 1 (QR c)),(8,.arr 1 (QR q)),
     (9,.arr 1 (QR (Zu ⟨gn,ge⟩ q qc i))),(10,.arr 3 []),(11,.box [.sl 9 0 qc,.sl 10 0 0]),(12,.arr 1 []),(13,.box [.sl 8 0 gn.length,.sl 12 0 0])],14⟩)
    (fun i=>i≤gn.length) (fun i=>gn.length-i) 0 ?_ ?_ ?_
   ·simp(disch:=omega)only[go_sem,Zu,hql]
    rfl
   ·omega
   ·intro i hi
    have oli:=ol i
    by_cases f:i<gn.length
    ·have g1:decide ((i:Int)<gn.length)=true:=Qd (by omega)
     have hs:Zu ⟨gn,ge⟩ q qc (i+1)=(Zu ⟨gn,ge⟩ q qc i).set (gt q i).toNat (gt gn i):=rfl
     have b1:=hqb i f
     simp(disch:=omega)only[go_sem,Qka,g1,hql,oli]
     exact⟨i+1,by simp [hs],by omega,by omega⟩
    ·have g1:decide ((i:Int)<gn.length)=false:=Qc (by omega)
     obtain rfl:i=gn.length:=by omega
     simp(disch:=omega)only[go_sem,Qka,g1,hql,oli]
     generalize Zu ⟨gn,ge⟩ q qc gn.length=ou at*
     have hel:ge.length≤80:=vs.2.1
     refine Q5 (fun i:Nat=>⟨[(2,.pt 0 0),(4,.pt 3 0),(5,.pt 6 0),(6,.sl 7 0 c.length),(10,.sl 8 0 gn.length),(13,.pt 11 0),(14,.pt 13 0),(16,.int .i64 i)],
      [(0,.box [.lst 1 (QR gn),.lst 3 (eds ge)]),(1,.arr 1 []),(2,.arr 3 []),(3,.box [.sl 1 0 0,.sl 2 0 0]),(4,.arr 1 []),(5,.arr 1 []),(6,.box [.sl 4 0 0,.sl 5 0 0]),(7,.arr 1 (QR c)),(8,.arr 1 (QR q)),
       (9,.arr 1 (QR ou)),(10,.arr 3 (eds (XO ⟨gn,ge⟩ q c i).1)),(11,.box [.sl 9 0 qc,.sl 10 0 (XO ⟨gn,ge⟩ q c i).1.length]),(12,.arr 1 (QR (XO ⟨gn,ge⟩ q c i).2)),(13,.box [.sl 8 0 gn.length,.sl 12 0 i])],14⟩)
      (fun i=>i≤ge.length) (fun i=>ge.length-i) 0 ?_ ?_ ?_
     ·simp(disch:=omega)only[go_sem,XO,hql,oli]
      rfl
     ·omega
     ·intro i hi
      have ev:=hEV i hi
      have evl:=ev.l
      have evm:=ev.m
      by_cases f:i<ge.length
      ·have g1:decide ((i:Int)<ge.length)=true:=Qd (by omega)
       have hs:XO ⟨gn,ge⟩ q c (i+1)=if Zh (XO ⟨gn,ge⟩ q c i).1 (ZW ⟨gn,ge⟩ q i) c i (XO ⟨gn,ge⟩ q c i).1.length<0 then ((XO ⟨gn,ge⟩ q c i).1++[ZW ⟨gn,ge⟩ q i],(XO ⟨gn,ge⟩ q c i).2++[((XO ⟨gn,ge⟩ q c i).1.length:Int)])
        else ((XO ⟨gn,ge⟩ q c i).1,(XO ⟨gn,ge⟩ q c i).2++[Zh (XO ⟨gn,ge⟩ q c i).1 (ZW ⟨gn,ge⟩ q i) c i (XO ⟨gn,ge⟩ q c i).1.length]):=rfl
       generalize hE1:XO ⟨gn,ge⟩ q c (i+1)=s' at*
       generalize hE0:XO ⟨gn,ge⟩ q c i=s at*
       obtain⟨oe,me⟩:=s
       simp only at hs evl evm
       obtain⟨_,e1,e2⟩:=Zt hv (i:=i) (by simp only;omega)
       simp only at e1 e2
       have hx:ZW ⟨gn,ge⟩ q i=⟨(gt ge i).t,gt q (gt ge i).f,gt q (gt ge i).o⟩:=rfl
       have hfo:=fun k=>@QhV oe (ZW ⟨gn,ge⟩ q i) c i k
       rw[hx] at hs hfo
       clear hx
       simp(disch:=omega)only[go_sem,Qkb,g1,hql,evl]
       generalize (gt ge i).t=xt at*
       generalize gt q (gt ge i).f=xf at*
       generalize gt q (gt ge i).o=xo at*
       refine Q5 (fun k:Nat=>⟨[(2,.pt 0 0),(4,.pt 3 0),(5,.pt 6 0),(6,.sl 7 0 c.length),(10,.sl 8 0 gn.length),(13,.pt 11 0),(14,.pt 13 0),(16,.int .i64 i),(17,.pt 14 0),(18,.int .i64 (Zh oe ⟨xt,xf,xo⟩ c i k)),(19,.int .i64 k)],
        [(0,.box [.lst 1 (QR gn),.lst 3 (eds ge)]),(1,.arr 1 []),(2,.arr 3 []),(3,.box [.sl 1 0 0,.sl 2 0 0]),(4,.arr 1 []),(5,.arr 1 []),(6,.box [.sl 4 0 0,.sl 5 0 0]),(7,.arr 1 (QR c)),(8,.arr 1 (QR q)),
         (9,.arr 1 (QR ou)),(10,.arr 3 (eds oe)),(11,.box [.sl 9 0 qc,.sl 10 0 oe.length]),(12,.arr 1 (QR me)),(13,.box [.sl 8 0 gn.length,.sl 12 0 i]),(14,.box [.int .i64 xt,.int .i64 xf,.int .i64 xo])],15⟩)
        (fun k=>k≤oe.length) (fun k=>oe.length-k) 0 ?_ ?_ ?_
       ·simp(disch:=omega)only[go_sem,Zh,evl,hql]
        rfl
       ·omega
       ·intro k hk
        by_cases fk:k<oe.length
        ·have g2:decide ((k:Int)<oe.length)=true:=Qd (by omega)
         have b1:=Zq (x:=(i:Int)+k) (m:=(c.length:Int)) (by omega) (by omega)
         have z1:¬((c.length:Int)=0):=by omega
         have hfs:Zh oe ⟨xt,xf,xo⟩ c i (k+1)=if gt oe k=⟨xt,xf,xo⟩∧(gt c (((i:Int)+k).tmod c.length)).tmod 2=0 then (k:Int) else Zh oe ⟨xt,xf,xo⟩ c i k:=rfl
         generalize hkd:((i:Int)+k).tmod c.length=kd at*
         have g4:(decide ((gt oe k).t=xt)&&(decide ((gt oe k).f=xf)&&decide ((gt oe k).o=xo)))=decide (gt oe k=⟨xt,xf,xo⟩):=by
          generalize gt oe (k:Int)=e
          obtain⟨a,b,d⟩:=e
          rw[Bool.eq_iff_iff]
          simp
         have z2:¬((2:Int)=0):=by omega
         by_cases c1:gt oe k=⟨xt,xf,xo⟩
         ·have g5:=g4.trans (Qd c1)
          by_cases c2:(gt c kd).tmod 2=0
          ·have g6:decide ((gt c kd).tmod 2=0)=true:=Qd c2
           rw[if_pos ⟨c1,c2⟩] at hfs
           simp(disch:=omega)only[go_sem,Qb1,g2,z1,z2,hkd,g5,g6]
           exact⟨k+1,by simp [hfs],by omega,by omega⟩
          ·have g6:decide ((gt c kd).tmod 2=0)=false:=Qc c2
           rw[if_neg (fun h=>c2 h.2)] at hfs
           simp(disch:=omega)only[go_sem,Qb1,g2,z1,z2,hkd,g5,g6]
           exact⟨k+1,by simp [hfs],by omega,by omega⟩
         ·have g5:=g4.trans (Qc c1)
          rw[if_neg (fun h=>c1 h.1)] at hfs
          simp(disch:=omega)only[go_sem,Qb1,g2,z1,z2,hkd,g5]
          exact⟨k+1,by simp [hfs],by omega,by omega⟩
        ·have g2:decide ((k:Int)<oe.length)=false:=Qc (by omega)
         obtain rfl:k=oe.length:=by omega
         have hfo:=hfo oe.length (Qf _)
         generalize Zh oe ⟨xt,xf,xo⟩ c i oe.length=at_ at*
         by_cases c1:at_<0
         ·have g3:decide (at_<0)=true:=Qd c1
          rw[if_pos c1] at hs
          simp(disch:=omega)only[go_sem,Qb1,g2,g3,evl]
          exact⟨i+1,by simp [hE1,hs],by omega,by omega⟩
         ·have g3:decide (at_<0)=false:=Qc c1
          rw[if_neg c1] at hs
          simp(disch:=omega)only[go_sem,Qb1,g2,g3,evl]
          exact⟨i+1,by simp [hE1,hs],by omega,by omega⟩
      ·have g1:decide ((i:Int)<ge.length)=false:=Qc (by omega)
       obtain rfl:i=ge.length:=by omega
       generalize XO ⟨gn,ge⟩ q c ge.length=s at*
       obtain⟨oe,me⟩:=s
       simp only at evl evm
       subst hG hM
       simp(disch:=omega)only[go_sem,Qkb,g1,hql,oli,evl]
       rfl
end
def QCY:LL:=[qB 2 0,qa 4 [.nl 1,.nl 3],qa 5 [.nl 1,.nl 1]]
def QCZ(F:Fn):LL:=[qL 10 2 2,qc 11 (F "t") [.t 10],qL 12 2 2,qc 13 (F "K") [.t 12],qa 6 [.nl 1,.nl 3],qa 7 [.nl 1,.nl 1],qs 2 6 11,qs 2 7 13]
def QC0:LL:=[qm 14 1,qz 15 14,qk .gtr 16 15 0,qm 17 16,qg 17 true (qm 18 1),⟨some 19,.iad 1 (.t 18) (.k (.int .i64 (0))),some (17,true)⟩,qg 17 true (ql 20 1 19),
 ⟨some 21,.bin .lss (.t 20) (.k (.int .u8 (255))),some (17,true)⟩,qP 22 17 21]
def QC1(F:Fn):LL:=[qL 24 2 2,qm 25 1,qc 26 (F "bl") [.t 24,.t 25],qm 23 26,qx 27 23 0,qx 28 23 1,qs 2 6 27,qs 2 7 28]
def QC2(F:Fn):LL:=[qL 29 2 6,qc 30 (F "t") [.t 29],qs 2 6 30]
def QC3:LL:=[qi 8 1]
def QC4:LL:=[qm 31 8,qm 32 1,qz 33 32,qo .lss 34 31 33,qm 35 34,qg 35 true (qm 36 8),qg 35 true (qk .leq 37 36 3),qP 38 35 37]
def QC5:LL:=[qm 41 1,qm 42 8,qd 43 1 41 42,ql 44 1 43,qQp 45 (.bin .rem (.t 44) (.k (.int .u8 (2)))),qQp 46 (.bin .eql (.t 45) (.k (.int .u8 (1))))]
def QC6:LL:=[qf 47 0 6,ql 48 1 47,qm 49 1,qm 50 8,qd 51 1 49 50,ql 52 1 51,qQp 53 (.bin .quo (.t 52) (.k (.int .u8 (2)))),qQp 54 (.conv .i64 (.t 53)),qk .rem 55 54 3,
 qQp 56 (.buildSl 1 8 (.int .i64 (0)) 1 [(0,.t 55)]),qp 57 1 8 48 56,qf 58 0 6,qs 1 58 57]
def QC7:LL:=[qm 39 8,qk .add 40 39 1,qm 8 40]
def QcP:LC:=QQ [QQ [.reg QC4 [1,4,5,6,7,8,38],.cond (.t 38) .skip (.exit 0)],.block 1 (QQ [.reg QC5 [1,4,5,6,7,8,46],.cond (.t 46) (.dreg [(1,none,[],true),(9,none,[1],false)] QC6 [1,4,5,6,7,8]) .skip]),.reg QC7 [1,4,5,6,7,8]]
def QC8:LL:=[qi 9 4]
def QC9:LL:=[qm 59 9,qm 60 1,qz 61 60,qo .lss 62 59 61,qm 63 62,qg 63 true (qm 64 9),qg 63 true (qk .leq 65 64 7),qP 66 63 65,qm 67 66,qg 67 true (qf 68 0 6),qg 67 true (ql 69 1 68),
 qg 67 true (qz 70 69),qg 67 true (qk .gtr 71 70 0),qP 72 67 71]
def QDa:LL:=[qf 75 1 6,ql 76 1 75,qm 77 1,qm 78 9,qd 79 1 77 78,ql 80 1 79,qQp 81 (.conv .i64 (.t 80)),qk .rem 82 81 2,qm 83 1,qm 84 9,qd 85 1 83 84,ql 86 1 85,
 qQp 87 (.bin .quo (.t 86) (.k (.int .u8 (2)))),qQp 88 (.conv .i64 (.t 87)),qf 89 0 6,ql 90 1 89,qz 91 90,qo .rem 92 88 91,qm 93 1,qm 94 9,qd 95 1 93 94,ql 96 1 95,
 qQp 97 (.bin .quo (.t 96) (.k (.int .u8 (16)))),qQp 98 (.conv .i64 (.t 97)),qf 99 0 6,ql 100 1 99,qz 101 100,qo .rem 102 98 101,
 qu 103 [.int .i64 (0),.int .i64 (0),.int .i64 (0)] [(0,1,.t 82),(1,1,.t 92),(2,1,.t 102)],
 qQp 104 (.buildSl 3 24 (.agg [.int .i64 (0),.int .i64 (0),.int .i64 (0)]) 1 [(0,.t 103)]),qp 105 3 24 76 104,qf 106 1 6,qs 1 106 105]
def QDb:LL:=[qm 73 9,qk .add 74 73 1,qm 9 74]
def QcQ:LC:=QQ [QQ [.reg QC9 [1,4,5,6,7,9,72],.cond (.t 72) .skip (.exit 2)],.block 3 (.dreg [(1,none,[],true),(29,none,[1],false)] QDa [1,4,5,6,7,9]),.reg QDb [1,4,5,6,7,9]]
def QDc:LL:=[qL 107 2 6,qL 108 2 7,qs 2 4 107,qs 2 5 108]
def Qke(F:Fn):LC:=QQ [.reg QCY [1,2,4,5],.dreg [(1,none,[],true),(2,(some 0),[1],false)] (QCZ F) [1,2,4,5,6,7],QQ [.reg QC0 [1,2,4,5,6,7,22],.cond (.t 22) (.reg (QC1 F) [1,4,5,6,7]) .skip],.reg (QC2 F) [1,4,5,6,7],QQ [.reg QC3 [1,4,5,6,7,8],.block 0 (.loop [1,4,5,6,7,8] QcP)],QQ [.reg QC8 [1,4,5,6,7,9],.block 2 (.loop [1,4,5,6,7,9] QcQ)],.dreg [(1,none,[],true),(2,none,[1],false)] QDc [4,5],.ret]
def QX1:Hints:=hn [] [(0,[1,2,4,5]),(1,[1,2,4,5,6,7]),(2,[1,2,4,5,6,7,22]),(3,[1,4,5,6,7]),(4,[1,4,5,6,7]),(5,[1,4,5,6,7,8]),(6,[1,4,5,6,7,8,38]),(7,[1,4,5,6,7,8]),(8,[1,4,5,6,7,8,46]),(9,[1,4,5,6,7,8]),(10,[1,4,5,6,7,9]),(11,[1,4,5,6,7,9,72]),(12,[1,4,5,6,7,9]),(13,[1,4,5,6,7,9]),(14,[4,5])] [(6,[1,4,5,6,7,8]),(11,[1,4,5,6,7,9])]
def ZK(c:List Int):Nat→List Int
 |0=>[]
 |i+1=>if (gt c (((i+1:Nat):Int))).tmod 2=1 then ZK c i++[((gt c (((i+1:Nat):Int))).tdiv 2).tmod 3] else ZK c i
def Jd(c:List Int)(n:Int):Nat→List E
 |0=>[]
 |i+1=>Jd c n i++[⟨(gt c (((i+4:Nat):Int))).tmod 2,((gt c (((i+4:Nat):Int))).tdiv 2).tmod n,((gt c (((i+4:Nat):Int))).tdiv 16).tmod n⟩]
def grB(a:G)(c:List Int):G×Mo:=if 0<c.length∧gt c 0<255 then (imG a c,J2 a c) else (a,idM a)
def grN(c:List Int):List Int:=ZK c (min (c.length-1) 3)
def grE(n:Nat)(c:List Int):List E:=if n=0 then [] else Jd c n (min (c.length-4) 4)
def grG(a:G)(c:List Int):G:=⟨(grB a c).1.n++grN c,(grB a c).1.e++grE ((grB a c).1.n++grN c).length c⟩
def grM(a:G)(c:List Int):Mo:=(grB a c).2
attribute [go_sem] QCY QCZ QC0 QC1 QC2 QC3 QC4 QC5 QC6 QC7 QC8 QC9 QDa QDb QDc Qke
section
variable (P:Program) (F:String→Nat)
def Qkf:Prop:=∀(a:G)(c:List Int),QX a=0→c.length≤2000000→(∀v∈c,XF v)→FC P (F "bs") [gD a,.lst 1 (u8s c)] (.tup [gA (grG a c),mA (grM a c)]) []
end
section
variable {P:Program} {F:String→Nat} {α:Type}
theorem Qkg{n:Int}(h:0≤n)(h':n≤255):IntKind.u8.wrap n=n:=by
 unfold IntKind.wrap
 simp [IntKind.bits,IntKind.signed]
 omega
theorem Qb2{x:Int}(h:XF x)(m:Int)(hm:0≤m:=by omega):0≤x.tdiv m∧x.tdiv m≤255:=by
 obtain⟨h1,h2⟩:=h
 refine⟨Int.tdiv_nonneg h1 hm,?_⟩
 rw[Int.tdiv_eq_ediv_of_nonneg h1]
 exact Int.le_trans (Int.ediv_le_self _ h1) h2
theorem Qkh(c:List Int):∀i,(ZK c i).length≤i
 |0=>by simp [ZK]
 |i+1=>by rw[ZK];have:=Qkh c i;split<;>simp<;>omega
theorem Qki(c:List Int)(n:Int):∀i,(Jd c n i).length=i
 |0=>by simp [Jd]
 |i+1=>by rw[Jd,Ql,Qki c n i];rfl
theorem QX2(c:List Int):(grN c).length≤3:=by
 have:=Qkh c (min (c.length-1) 3)
 unfold grN;omega
theorem QX3(n:Nat)(c:List Int):(grE n c).length≤4:=by
 unfold grE
 split
 ·simp
 ·rw[Qki];omega
theorem Qkj{c:List Int}(hc:∀v∈c,XF v):∀i:Nat,i<c.length→∀x∈ZK c i,okN x=true
 |0,_,x,hx=>by simp [ZK] at hx
 |i+1,hi,x,hx=>by
  rw[ZK] at hx
  have hb:=hc _ (gt_mem (l:=c) (j:=((i+1:Nat):Int)) (by omega) (by omega))
  split at hx
  ·rcases Qg.1 hx with hx|hx
   ·exact Qkj hc i (by omega) x hx
   ·rw[Qn] at hx
    have:=Qb2 hb 2
    have:=Zq (x:=(gt c (((i+1:Nat):Int))).tdiv 2) (m:=3) this.1 (by omega)
    rw[hx]
    simp only[okN,Qk]
    omega
  ·exact Qkj hc i (by omega) x hx
theorem QDd{c:List Int}(hc:∀v∈c,XF v){n:Nat}(hn:0<n):∀i:Nat,i≤c.length-4→∀x∈Jd c n i,XP n x=true
 |0,_,x,hx=>by simp [Jd] at hx
 |i+1,hi,x,hx=>by
  rw[Jd] at hx
  have hb:=hc _ (gt_mem (l:=c) (j:=((i+4:Nat):Int)) (by omega) (by omega))
  rcases Qg.1 hx with hx|hx
  ·exact QDd hc hn i (by omega) x hx
  ·rw[Qn] at hx
   have h1:=Zq (x:=gt c (((i+4:Nat):Int))) (m:=2) hb.1 (by omega)
   have h2:=Zq (x:=(gt c (((i+4:Nat):Int))).tdiv 2) (m:=n) (Qb2 hb 2).1 (by omega)
   have h3:=Zq (x:=(gt c (((i+4:Nat):Int))).tdiv 16) (m:=n) (Qb2 hb 16).1 (by omega)
   rw[hx]
   exact Jr (by simp only;omega) h2 h3
theorem QDe{a:G}{c:List Int}(hv:QX a=0)(hc:∀v∈c,XF v):MOk a (grB a c).1 (grB a c).2∧(grB a c).1.n.length≤a.n.length∧(grB a c).1.e.length≤a.e.length:=by
 unfold grB
 split
 ·have:=QWm hc hv
  exact⟨QWl hv hc,this.2.1,this.2.2⟩
 ·exact⟨QhT hv,Qf _,Qf _⟩
theorem QX4{a b:G}{m:Mo}{ns:List Int}{es:List E}(hm:MOk a b m)(hv:QX ⟨b.n++ns,b.e++es⟩=0):MOk a ⟨b.n++ns,b.e++es⟩ m:=by
 refine⟨hm.va,hv,hm.ln,hm.le,fun i hi=>?_,fun i hi=>?_⟩
 ·obtain⟨h1,h2⟩:=hm.nd i hi
  obtain⟨k,hk,hk2⟩:=gtI h1
  simp only
  rw[hk2] at h1 h2 ⊢
  rw[J4 hk]
  exact⟨by simp;omega,h2⟩
 ·obtain⟨h1,h2⟩:=hm.ed i hi
  obtain⟨k,hk,hk2⟩:=gtI h1
  simp only
  rw[hk2] at h1 h2 ⊢
  rw[J4 hk]
  exact⟨by simp;omega,h2⟩
theorem QX5{a:G}{c:List Int}(hv:QX a=0)(hc:∀v∈c,XF v)(s1:a.n.length≤37)(s2:a.e.length≤76):
  MOk a (grG a c) (grM a c)∧(grG a c).n.length≤a.n.length+3∧(grG a c).e.length≤a.e.length+4:=by
 obtain⟨hm,l1,l2⟩:=QDe hv hc
 have n1:=QX2 c
 have n2:=QX3 ((grB a c).1.n++grN c).length c
 have vs:=Q8 hm.vb
 refine⟨QX4 hm (Qa4 ?_ ?_ (fun x hx=>?_) (fun x hx=>?_)),?_,?_⟩
 ·simp only[Ql];omega
 ·simp only[Ql] at n2 ⊢;omega
 ·rcases Qg.1 hx with hx|hx
  ·exact vs.2.2.1 x hx
  ·by_cases c0:c.length=0
   ·have:grN c=[]:=by unfold grN;rw[show min (c.length-1) 3=0 by omega];rfl
    rw[this] at hx;simp at hx
   ·exact Qkj hc _ (by omega) x hx
 ·rcases Qg.1 hx with hx|hx
  ·have:=YZ (vs.2.2.2 x hx)
   have e:(((grB a c).1.n++grN c).length:Int)=(grB a c).1.n.length+(grN c).length:=by simp
   exact Jr this.1 (by show 0≤x.f∧x.f<(((grB a c).1.n++grN c).length:Int);rw[e];omega) (by show 0≤x.o∧x.o<(((grB a c).1.n++grN c).length:Int);rw[e];omega)
  ·unfold grE at hx
   split at hx
   ·simp at hx
   ·rename_i h0
    exact QDd hc (Nat.pos_of_ne_zero h0) (min (c.length-4) 4) (by omega) x hx
 ·simp only[grG,Ql];omega
 ·simp only[grG,Ql] at n2 ⊢;omega
set_option maxHeartbeats 4000000 in
set_option maxRecDepth 100000 in
theorem QX6(hcp:Qcv P F)(hof:Qd5 P F)(hi:Qkd P F)(a:G)(c:List Int)(hv:QX a=0)(hl:c.length≤2000000)(hb:∀v∈c,XF v):W P (Qke F) (Done [.c 4 true 2,.c 5 true 2] [] (.tup [gA (grG a c),mA (grM a c)]) []) (init [gD a,.lst 1 (u8s c)]):=by
 refine QZ ?_
 have vs:=Q8 hv
 have r1:=hcp a (by omega) (by omega)
 have r2:=hof a (by omega) (by omega)
 have r3:=hi a c hv hl hb
 obtain⟨hm,b1,b2⟩:=QDe hv hb
 have r4:=hcp (grB a c).1 (by omega) (by omega)
 have hB:grB a c=if 0<c.length∧gt c 0<255 then (imG a c,J2 a c) else (a,idM a):=rfl
 have hG:grG a c=⟨(grB a c).1.n++grN c,(grB a c).1.e++grE ((grB a c).1.n++grN c).length c⟩:=rfl
 have hM:grM a c=(grB a c).2:=rfl
 have hN:grN c=ZK c (min (c.length-1) 3):=rfl
 have hE:∀n,grE n c=if n=0 then [] else Jd c n (min (c.length-4) 4):=fun n=>rfl
 have n1:=Qkh c
 have n2:=Qki c
 have n0:ZK c 0=[]:=rfl
 have e0:∀n,Jd c n 0=[]:=fun n=>rfl
 have nS:∀i:Nat,ZK c (i+1)=if (gt c (((i+1:Nat):Int))).tmod 2=1 then ZK c i++[((gt c (((i+1:Nat):Int))).tdiv 2).tmod 3] else ZK c i:=fun i=>rfl
 have eS:∀(n:Int)(i:Nat),Jd c n (i+1)=Jd c n i++[⟨(gt c (((i+4:Nat):Int))).tmod 2,((gt c (((i+4:Nat):Int))).tdiv 2).tmod n,((gt c (((i+4:Nat):Int))).tdiv 16).tmod n⟩]:=fun n i=>rfl
 rw[hG,hM]
 clear hG hM hm
 generalize imG a c=ig at*
 generalize J2 a c=im at*
 generalize idM a=ia at*
 generalize grB a c=b at*
 generalize ZK c=gN at*
 generalize Jd c=gE at*
 generalize grN c=gNc at*
 generalize (fun n=>grE n c)=gEc at*
 obtain⟨⟨on,oe⟩,⟨qn,qe⟩⟩:=b
 obtain⟨an,ae⟩:=a
 simp only at*
 have cases3:(c.length=0∧on=an∧oe=ae∧ia=⟨qn,qe⟩)∨(0<c.length∧¬gt c 0<255∧on=an∧oe=ae∧ia=⟨qn,qe⟩)∨(0<c.length∧gt c 0<255∧ig=⟨on,oe⟩∧im=⟨qn,qe⟩):=by
  by_cases h1:0<c.length
  ·by_cases h2:gt c 0<255
   ·rw[if_pos ⟨h1,h2⟩] at hB
    simp only[Qe] at hB
    exact .inr (.inr ⟨h1,h2,hB.1.symm,hB.2.symm⟩)
   ·rw[if_neg (fun h=>h2 h.2)] at hB
    simp only[Qe,G.mk.injEq] at hB
    exact .inr (.inl ⟨h1,h2,hB.1.1,hB.1.2,hB.2.symm⟩)
  ·rw[if_neg (fun h=>h1 h.1)] at hB
   simp only[Qe,G.mk.injEq] at hB
   exact .inl ⟨by omega,hB.1.1,hB.1.2,hB.2.symm⟩
 clear hB
 rcases cases3 with⟨h1,h2,h3,h4⟩|⟨h1,h1',h2,h3,h4⟩|⟨h1,h1',h2,h3⟩
 case' inl=>
  have d1:decide ((0:Int)<c.length)=false:=Qc (by omega)
  subst h2 h3 h4
  simp only[gD,gA,mA,mD] at*
  simp(disch:=omega)only[go_sem]
  refine QT r1 ?_
  simp(disch:=omega)only[go_sem]
  refine QT r2 ?_
  simp(disch:=omega)only[go_sem,d1]
  refine QT r4 ?_
  simp(disch:=omega)only[go_sem]
 case' inr.inl=>
  have d1:decide ((0:Int)<c.length)=true:=Qd (by omega)
  have d2:decide (gt c ((0:Nat):Int)<255)=false:=Qc h1'
  subst h2 h3 h4
  simp only[gD,gA,mA,mD] at*
  simp(disch:=omega)only[go_sem]
  refine QT r1 ?_
  simp(disch:=omega)only[go_sem]
  refine QT r2 ?_
  simp(disch:=omega)only[go_sem,d1,d2]
  refine QT r4 ?_
  simp(disch:=omega)only[go_sem]
 case' inr.inr=>
  have d1:decide ((0:Int)<c.length)=true:=Qd (by omega)
  have d2:decide (gt c ((0:Nat):Int)<255)=true:=Qd h1'
  subst h2 h3
  obtain⟨iN,iE⟩:=ia
  simp only[gD,gA,mA,mD] at*
  simp(disch:=omega)only[go_sem]
  refine QT r1 ?_
  simp(disch:=omega)only[go_sem]
  refine QT r2 ?_
  simp(disch:=omega)only[go_sem,d1,d2]
  refine QT r3 ?_
  simp(disch:=omega)only[go_sem]
  refine QT r4 ?_
  simp(disch:=omega)only[go_sem]
 all_goals
  clear h1
  refine Q5 (fun i:Nat=>⟨[(1,.lst 1 (u8s c)),(4,.pt 2 0),(5,.pt 5 0),(6,.pt 8 0),(7,.pt 11 0),(8,.int .i64 (((i+1:Nat):Int)))],
   [(0,.arr 1 []),(1,.arr 3 []),(2,.box [.sl 0 0 0,.sl 1 0 0]),(3,.arr 1 []),(4,.arr 1 []),(5,.box [.sl 3 0 0,.sl 4 0 0]),(6,.arr 1 (QR (on++gN i))),(7,.arr 3 (eds oe)),(8,.box [.sl 6 0 (on.length+(gN i).length),.sl 7 0 oe.length]),
    (9,.arr 1 (QR qn)),(10,.arr 1 (QR qe)),(11,.box [.sl 9 0 qn.length,.sl 10 0 qe.length])],12⟩) (fun i=>i≤min (c.length-1) 3) (fun i=>4-i) 0 ?_ ?_ ?_
  ·simp(disch:=omega)only[go_sem,n0]
   rfl
  ·simp
  ·intro i hi
   have n1i:=n1 i
   have al:(on++gN i).length=on.length+(gN i).length:=Ql
   by_cases f:i+1<c.length∧i+1≤3
   ·have g1:decide (((i+1:Nat):Int)<c.length)=true:=Qd (by omega)
    have g2:decide (((i+1:Nat):Int)≤3)=true:=Qd (by omega)
    have hbi:=hb _ (gt_mem (l:=c) (j:=((i+1:Nat):Int)) (by omega) (by omega))
    have q1:=Qb2 hbi 2
    have w1:IntKind.u8.wrap ((gt c (((i+1:Nat):Int))).tdiv 2)=(gt c (((i+1:Nat):Int))).tdiv 2:=Qkg q1.1 q1.2
    have w2:IntKind.i64.wrap ((gt c (((i+1:Nat):Int))).tdiv 2)=(gt c (((i+1:Nat):Int))).tdiv 2:=wrap_i64 (by omega) (by omega)
    have z1:¬((2:Int)=0):=by omega
    have z2:¬((3:Int)=0):=by omega
    have hS:=nS i
    by_cases e:(gt c (((i+1:Nat):Int))).tmod 2=1
    ·have g3:decide ((gt c (((i+1:Nat):Int))).tmod 2=1)=true:=Qd e
     rw[if_pos e] at hS
     have el:(gN i++[((gt c (((i+1:Nat):Int))).tdiv 2).tmod 3]).length=(gN i).length+1:=by simp
     simp(disch:=omega)only[go_sem,QcP,g1,g2,g3,z1,z2,w1,w2,al]
     exact⟨i+1,by simp [hS,QD];omega,by omega,by omega⟩
    ·have g3:decide ((gt c (((i+1:Nat):Int))).tmod 2=1)=false:=Qc e
     rw[if_neg e] at hS
     simp(disch:=omega)only[go_sem,QcP,g1,g2,g3,z1,al]
     exact⟨i+1,by simp [hS],by omega,by omega⟩
   ·have hi':i=min (c.length-1) 3:=by omega
    have hg:(decide (((i+1:Nat):Int)<c.length)=true∧decide (((i+1:Nat):Int)≤3)=false)∨decide (((i+1:Nat):Int)<c.length)=false:=by
     by_cases x:((i+1:Nat):Int)<c.length
     ·exact .inl ⟨Qd x,Qc (by omega)⟩
     ·exact .inr (Qc x)
    rw[←hi'] at hN
    rw[←hN] at al n1i ⊢
    rcases hg with⟨g1,g2⟩|g1
    case' inl=>simp(disch:=omega)only[go_sem,QcP,g1,g2,al]
    case' inr=>simp(disch:=omega)only[go_sem,QcP,g1,al]
    all_goals
     have hEn:=hE (on++gNc).length
     rw[al] at hEn
     generalize hon:on++gNc=og at*
     generalize hnn:on.length+gNc.length=nn at*
     refine Q5 (fun j:Nat=>⟨[(1,.lst 1 (u8s c)),(4,.pt 2 0),(5,.pt 5 0),(6,.pt 8 0),(7,.pt 11 0),(9,.int .i64 (((j+4:Nat):Int)))],
      [(0,.arr 1 []),(1,.arr 3 []),(2,.box [.sl 0 0 0,.sl 1 0 0]),(3,.arr 1 []),(4,.arr 1 []),(5,.box [.sl 3 0 0,.sl 4 0 0]),(6,.arr 1 (QR og)),(7,.arr 3 (eds (oe++gE nn j))),(8,.box [.sl 6 0 nn,.sl 7 0 (oe.length+j)]),
       (9,.arr 1 (QR qn)),(10,.arr 1 (QR qe)),(11,.box [.sl 9 0 qn.length,.sl 10 0 qe.length])],12⟩) (fun j=>j≤min (c.length-4) 4∧(nn=0→j=0)) (fun j=>5-j) 0 ?_ ?_ ?_
     ·simp(disch:=omega)only[go_sem,e0,al]
      rfl
     ·simp
     ·rintro j ⟨hj,hj0⟩
      have el:(oe++gE nn j).length=oe.length+j:=by rw[Ql,n2]
      by_cases f2:j+4<c.length∧j+4≤7∧0<nn
      ·have g1:decide (((j+4:Nat):Int)<c.length)=true:=Qd (by omega)
       have g2:decide (((j+4:Nat):Int)≤7)=true:=Qd (by omega)
       have g3:decide ((0:Int)<nn)=true:=Qd (by omega)
       have hbi:=hb _ (gt_mem (l:=c) (j:=((j+4:Nat):Int)) (by omega) (by omega))
       have q1:=Qb2 hbi 2
       have q2:=Qb2 hbi 16
       have w1:IntKind.u8.wrap ((gt c (((j+4:Nat):Int))).tdiv 2)=(gt c (((j+4:Nat):Int))).tdiv 2:=Qkg q1.1 q1.2
       have w2:IntKind.i64.wrap ((gt c (((j+4:Nat):Int))).tdiv 2)=(gt c (((j+4:Nat):Int))).tdiv 2:=wrap_i64 (by omega) (by omega)
       have w3:IntKind.u8.wrap ((gt c (((j+4:Nat):Int))).tdiv 16)=(gt c (((j+4:Nat):Int))).tdiv 16:=Qkg q2.1 q2.2
       have w4:IntKind.i64.wrap ((gt c (((j+4:Nat):Int))).tdiv 16)=(gt c (((j+4:Nat):Int))).tdiv 16:=wrap_i64 (by omega) (by omega)
       have w5:IntKind.i64.wrap (gt c (((j+4:Nat):Int)))=gt c (((j+4:Nat):Int)):=wrap_i64 (by have:=hbi.1;omega) (by have:=hbi.2;omega)
       have z1:¬((2:Int)=0):=by omega
       have z2:¬((16:Int)=0):=by omega
       have z3:¬((nn:Int)=0):=by omega
       have hS:=eS nn j
       simp(disch:=omega)only[go_sem,QcQ,g1,g2,g3,z1,z2,z3,w1,w2,w3,w4,w5,al,el]
       exact⟨j+1,by simp [hS,QD];omega,⟨by omega,by omega⟩,by omega⟩
      ·have hg:(decide (((j+4:Nat):Int)<c.length)=true∧decide (((j+4:Nat):Int)≤7)=true∧decide ((0:Int)<nn)=false)∨(decide (((j+4:Nat):Int)<c.length)=true∧decide (((j+4:Nat):Int)≤7)=false)∨decide (((j+4:Nat):Int)<c.length)=false:=by
        by_cases x:((j+4:Nat):Int)<c.length
        ·by_cases y:((j+4:Nat):Int)≤7
         ·exact .inl ⟨Qd x,Qd y,Qc (by omega)⟩
         ·exact .inr (.inl ⟨Qd x,Qc y⟩)
        ·exact .inr (.inr (Qc x))
       have hfin:grE nn c=gE nn j:=by
        rw[hEn]
        by_cases x:nn=0
        ·rw[if_pos x,hj0 x,e0]
        ·rw[if_neg x,show min (c.length-4) 4=j by omega]
       rw[al,hfin]
       rcases hg with⟨g1,g2,g3⟩|⟨g1,g2⟩|g1
       ·simp(disch:=omega)only[go_sem,QcQ,g1,g2,g3,al,el]
        rfl
       ·simp(disch:=omega)only[go_sem,QcQ,g1,g2,al,el]
        rfl
       ·simp(disch:=omega)only[go_sem,QcQ,g1,al,el]
        rfl
end
def QDf:LL:=[qB 2 0,qa 4 [.nl 1,.nl 1]]
def QDg:LL:=[qf 9 0 2,ql 10 1 9,qz 11 10,qQp 12 (.makeSl 1 1 (.bool false) (.t 11)),qf 13 1 2,ql 14 1 13,qz 15 14,qQp 16 (.makeSl 1 1 (.bool false) (.t 15)),qm 5 12,qm 6 16]
def QDh:LL:=[qi 7 0]
def QDi:LL:=[qm 17 7,qm 18 5,qz 19 18,qo .lss 20 17 19]
def QDj:LL:=[qm 23 5,qm 24 7,qm 25 1,qm 26 7,qk .rem 27 26 64,qo .shr 28 25 27,qQp 29 (.bin .and (.t 28) (.k (.int .u64 (1)))),qQp 30 (.bin .eql (.t 29) (.k (.int .u64 (1)))),
 qd 31 1 23 24,qs 1 31 30]
def QDk:LL:=[qm 21 7,qk .add 22 21 1,qm 7 22]
def Qkk:LC:=QQ [QQ [.reg QDi [1,2,4,5,6,7,20],.cond (.t 20) .skip (.exit 0)],.block 1 (.reg QDj [1,2,4,5,6,7]),.reg QDk [1,2,4,5,6,7]]
def QDl:LL:=[qi 8 0]
def QDm:LL:=[qm 32 8,qm 33 6,qz 34 33,qo .lss 35 32 34]
def QDn:LL:=[qm 38 6,qm 39 8,qm 40 1,qm 41 5,qz 42 41,qm 43 8,qo .add 44 42 43,qk .rem 45 44 64,qo .shr 46 40 45,qQp 47 (.bin .and (.t 46) (.k (.int .u64 (1)))),
 qQp 48 (.bin .eql (.t 47) (.k (.int .u64 (1)))),qd 49 1 38 39,qs 1 49 48]
def QDo:LL:=[qm 36 8,qk .add 37 36 1,qm 8 37]
def Qkl:LC:=QQ [QQ [.reg QDm [1,2,4,5,6,8,35],.cond (.t 35) .skip (.exit 2)],.block 3 (.reg QDn [1,2,4,5,6,8]),.reg QDo [1,2,4,5,6,8]]
def QDp(F:Fn):LL:=[qL 50 2 2,qm 51 5,qm 52 6,qc 53 (F "bv") [.t 50,.t 51,.t 52],qs 2 4 53]
def Qkm(F:Fn):LC:=QQ [.reg QDf [1,2,4],.dreg [(5,(some 16),[],false)] QDg [1,2,4,5,6],QQ [.reg QDh [1,2,4,5,6,7],.block 0 (.loop [1,2,4,5,6,7] Qkk)],QQ [.reg QDl [1,2,4,5,6,8],.block 2 (.loop [1,2,4,5,6,8] Qkl)],.reg (QDp F) [4],.ret]
def Qaj(s i:Int):Bool:=decide (IntKind.u64.wrap ((BitVec.ofInt 64 (s.fdiv (2 ^ (min (i.tmod 64).toNat 64)))&&&1#64).toNat:Int)=1)
def ZZ(s:Int)(n m:Nat):List Bool:=(List.range m).map fun k:Nat=>Qaj s ((n:Int)+(k:Int))
def X8(g:G)(s:Int):Mo:=Qai g (ZZ s 0 g.n.length) (ZZ s g.n.length g.e.length)
attribute [go_sem] QDf QDg QDh QDi QDj QDk QDl QDm QDn QDo QDp Qkm
section
variable (P:Program) (F:String→Nat)
def QeG:Prop:=∀(g:G)(s:Int),QX g=0→FC P (F "ae") [gD g,.int .u64 s] (mA (X8 g s)) []
end
section
variable {P:Program} {F:String→Nat} {α:Type}
theorem Qa8(s:Int)(n m:Nat):(ZZ s n m).length=m:=by simp [ZZ]
theorem QDq{s:Int}{n m k:Nat}(h:k<m):gt (ZZ s n m) (k:Int)=Qaj s ((n:Int)+k):=by
 rw[Xc (by rw[Qa8];exact h)]
 simp [ZZ]
theorem QX7{g:G}{bn be:List Bool}(h1:bn.length=g.n.length)(h2:be.length=g.e.length):Qai g bn be=QcI g (X7 bn) (X7 be):=by
 have hm:∀(b:List Bool)(k:Nat),k<b.length→gt b k=decide ((k:Int)∈X7 b):=fun b k hk=>by
  rw[Bool.eq_iff_iff,Qk,markL_mem]
  exact⟨fun h=>⟨hk,h⟩,fun h=>h.2⟩
 refine QXU h1 h2 (fun k hk=>hm bn k (by omega)) (fun k hk=>hm be k (by omega)) fun x hx=>?_
 obtain⟨k,hk,_,rfl⟩:=sel_mem.1 hx
 omega
theorem QDr{g:G}{s:Int}(hv:QX g=0):PK g (X8 g s):=by
 unfold X8
 rw[QX7 (Qa8 _ _ _) (Qa8 _ _ _)]
 exact QXg hv
theorem QX8(hl:Qj7 P F)(g:G)(s:Int)(hv:QX g=0):W P (Qkm F) (Done [.c 4 true 2] [] (mA (X8 g s)) []) (init [gD g,.int .u64 s]):=by
 refine QZ ?_
 have vs:=Q8 hv
 have r1:=hl g (ZZ s 0 g.n.length) (ZZ s g.n.length g.e.length) hv (Qa8 _ _ _) (Qa8 _ _ _)
 have hL:X8 g s=Qai g (ZZ s 0 g.n.length) (ZZ s g.n.length g.e.length):=rfl
 rw[hL]
 clear hL
 have b0:=Qa8 s 0 g.n.length
 have b1:=Qa8 s g.n.length g.e.length
 have bg0:∀k:Nat,k<g.n.length→gt (ZZ s 0 g.n.length) (k:Int)=Qaj s (k:Int):=fun k hk=>by rw[QDq hk];simp
 have bg1:∀k:Nat,k<g.e.length→gt (ZZ s g.n.length g.e.length) (k:Int)=Qaj s ((g.n.length:Int)+k):=fun k hk=>QDq hk
 generalize ZZ s 0 g.n.length=x0 at*
 generalize ZZ s g.n.length g.e.length=x1 at*
 have hnb:∀i:Int,0≤i→¬i.tmod 64<0:=fun i h=>by rw[Int.tmod_eq_emod_of_nonneg h];omega
 have hb:∀i:Int,decide (IntKind.u64.wrap ((BitVec.ofInt 64 (s.fdiv (2 ^ (min (i.tmod 64).toNat 64)))&&&1#64).toNat:Int)=1)=Qaj s i:=fun i=>rfl
 have z0:¬((64:Int)=0):=by omega
 obtain⟨gn,ge⟩:=g
 simp only[gD] at*
 simp(disch:=omega)only[go_sem]
 refine Q5 (fun t:Nat×List Bool=>⟨[(1,.int .u64 s),(2,.pt 0 0),(4,.pt 3 0),(5,.sl 4 0 gn.length),(6,.sl 5 0 ge.length),(7,.int .i64 t.1)],
  [(0,.box [.lst 1 (QR gn),.lst 3 (eds ge)]),(1,.arr 1 []),(2,.arr 1 []),(3,.box [.sl 1 0 0,.sl 2 0 0]),(4,.arr 1 (bls t.2)),(5,.arr 1 (bls (List.replicate ge.length false)))],6⟩)
  (fun t=>t.1≤gn.length∧t.2.length=gn.length∧∀k:Nat,k<t.1→gt t.2 k=Qaj s k) (fun t=>gn.length-t.1) (0,List.replicate gn.length false) ?_ ?_ ?_
 ·simp(disch:=omega)only[go_sem]
  rfl
 ·exact⟨by simp,by simp,fun k hk=>by simp at hk⟩
 ·rintro⟨i,z⟩ ⟨i1,i2,i3⟩
  simp only at i1 i2 i3
  by_cases c:i<gn.length
  ·have g1:decide ((i:Int)<gn.length)=true:=Qd (by omega)
   have hi:=hnb i (by omega)
   have hbi:=hb i
   simp(disch:=omega)only[go_sem,Qkk,g1,z0,hi,hbi,i2]
   refine⟨(i+1,z.set i (Qaj s i)),by simp;rfl,⟨by simp only;omega,by simp [i2],fun k hk=>?_⟩,by simp only;omega⟩
   simp only at hk
   simp only
   rw[QcJ (by omega)]
   by_cases e:i=k
   ·subst e;simp
   ·rw[if_neg e];exact i3 k (by omega)
  ·have g1:decide ((i:Int)<gn.length)=false:=Qc (by omega)
   obtain rfl:i=gn.length:=by omega
   have hz:z=x0:=Yd (by omega) fun k hk=>by rw[i3 k (by omega),bg0 k (by omega)]
   subst hz
   clear i3
   simp(disch:=omega)only[go_sem,Qkk,g1,i2]
   refine Q5 (fun t:Nat×List Bool=>⟨[(1,.int .u64 s),(2,.pt 0 0),(4,.pt 3 0),(5,.sl 4 0 gn.length),(6,.sl 5 0 ge.length),(8,.int .i64 t.1)],
    [(0,.box [.lst 1 (QR gn),.lst 3 (eds ge)]),(1,.arr 1 []),(2,.arr 1 []),(3,.box [.sl 1 0 0,.sl 2 0 0]),(4,.arr 1 (bls z)),(5,.arr 1 (bls t.2))],6⟩)
    (fun t=>t.1≤ge.length∧t.2.length=ge.length∧∀k:Nat,k<t.1→gt t.2 k=Qaj s ((gn.length:Int)+k)) (fun t=>ge.length-t.1) (0,List.replicate ge.length false) ?_ ?_ ?_
   ·simp(disch:=omega)only[go_sem]
    rfl
   ·exact⟨by simp,by simp,fun k hk=>by simp at hk⟩
   ·rintro⟨i,y⟩ ⟨j1,j2,j3⟩
    simp only at j1 j2 j3
    by_cases c:i<ge.length
    ·have g1:decide ((i:Int)<ge.length)=true:=Qd (by omega)
     have hi:=hnb ((gn.length:Int)+i) (by omega)
     have hbi:=hb ((gn.length:Int)+i)
     simp(disch:=omega)only[go_sem,Qkl,g1,z0,hi,hbi,i2,j2]
     refine⟨(i+1,y.set i (Qaj s ((gn.length:Int)+i))),by simp;rfl,⟨by simp only;omega,by simp [j2],fun k hk=>?_⟩,by simp only;omega⟩
     simp only at hk
     simp only
     rw[QcJ (by omega)]
     by_cases e:i=k
     ·subst e;simp
     ·rw[if_neg e];exact j3 k (by omega)
    ·have g1:decide ((i:Int)<ge.length)=false:=Qc (by omega)
     obtain rfl:i=ge.length:=by omega
     have hz:y=x1:=Yd (by omega) fun k hk=>by rw[j3 k (by omega),bg1 k (by omega)]
     subst hz
     clear j3
     generalize Qai ⟨gn,ge⟩ z y=w at*
     obtain⟨wn,we⟩:=w
     simp only[mA] at*
     simp(disch:=omega)only[go_sem,Qkl,g1,i2,j2]
     refine QT r1 ?_
     simp(disch:=omega)only[go_sem]
     try rfl
theorem QDs{im kn:List Int}{i:Nat}:∀{n:Nat},idR im kn i n=[]→∀k:Nat,i<k→k<n→idP im kn i k=false
 |0,_,k,_,h=>by omega
 |n+1,h,k,h1,h2=>by
  rw[idR] at h
  split at h
  ·simp at h
  ·rename_i hc
   by_cases e:k=n
   ·subst e
    rw[←Bool.not_eq_true]
    exact fun h=>hc ⟨h1,h⟩
   ·exact QDs h k h1 (by omega)
theorem QDt{im kn:List Int}:∀{n:Nat},idA im kn n=[]→∀i:Nat,i<n→idR im kn i im.length=[]
 |0,_,i,h=>by omega
 |n+1,h,i,hi=>by
  rw[idA,List.append_eq_nil_iff] at h
  by_cases e:i=n
  ·subst e;exact h.2
  ·exact QDt h.1 i (by omega)
theorem QDu{im kn:List Int}(h:idL im kn=[]){i k:Nat}(hi:i<k)(hk:k<im.length)(he:gt im i=gt im k):(i:Int)∈kn∧(k:Int)∈kn:=by
 have:=QDs (QDt h i (by omega)) k hi hk
 unfold idP at this
 rw[he] at this
 simpa using this
end
section
variable (P:Program) (F:String→Nat)
end
section
variable {P:Program} {F:String→Nat} {α:Type}
theorem QDv{x:Cx}(he:cxE x=0):(cxR x).2=0↔idL x.m.n x.k.n=[]∧idL x.m.e x.k.e=[]∧Yu x=[]:=by
 unfold cxR
 rw[if_neg (by simp [he])]
 split
 ·rename_i h
  constructor
  ·intro h';cases h'
  ·rintro⟨h1,h2,_⟩;rw[h1,h2] at h;simp at h
 ·rename_i h
  split
  ·rename_i h2
   constructor
   ·intro h';cases h'
   ·rintro⟨_,_,h3⟩;rw[h3] at h2;simp at h2
  ·rename_i h2
   exact⟨fun _=>⟨List.eq_nil_of_length_eq_zero (by omega),List.eq_nil_of_length_eq_zero (by omega),List.eq_nil_of_length_eq_zero (by omega)⟩,fun _=>rfl⟩
theorem danE_iff{g:G}{gone me:List Int}{k:Nat}:Zk g gone me k=true↔¬(k:Int)∈me∧((gt g.e k).f∈gone∨(gt g.e k).o∈gone):=by
 unfold Zk
 simp
theorem PK.sm{g:G}{p:Mo}(h:PK g p):p.sm:=by
 have:=h.len
 exact⟨by unfold QW;omega,by unfold QW;omega⟩
end
section
theorem Qkn{l:List Int}(h:∀i j:Nat,i<l.length→j<l.length→gt l i=gt l j→i=j):l.Nodup:=by
 unfold List.Nodup
 rw[List.pairwise_iff_getElem]
 intro i j hi hj hij e
 have:=h i j hi hj (by rw[Xc hi,Xc hj,e])
 omega
theorem covers_ix{l:List Int}{n:Nat}:QbI l n=true↔∀k:Nat,k<n→∃i:Nat,i<l.length∧gt l i=k:=by
 unfold QbI
 rw[Qr]
 simp only[List.mem_range,Qk]
 exact⟨fun h k hk=>X2 (h k hk),fun h k hk=>by obtain⟨i,h1,h2⟩:=h k hk;rw[←h2];exact gt_mem (by omega) (by omega)⟩
theorem Qko{a b:G}{m:Mo}(hm:MOk a b m):Zr a b m=true↔m.n.Nodup∧m.e.Nodup:=by
 unfold Zr Zg
 rw[mok.2 hm]
 simp
theorem QX9{a b:G}{m:Mo}(hm:MOk a b m):QdY a b m=true↔QbI m.n b.n.length=true∧QbI m.e b.e.length=true:=by
 unfold QdY
 rw[mok.2 hm]
 simp
section
variable {s:Sp}
theorem SOk.chk_grown(hs:SOk s){x:G}{m:Mo}(hm:MOk (poG s) x m):Qin s x (QY (poP s) m) (QY (poK s) m)=(Zr (poG s) x m&&QdY (poG s) x m):=by
 have e:Qeg s x (QY (poP s) m) (QY (poK s) m)=0:=cocE_ok.2 ⟨hs,JG hs.p hm,JG hs.k hm,by rw[←Jt hs.f hs.p,←Jt hs.g hs.k,hs.comm]⟩
 unfold Qin
 rw[e,hs.medU hm]
 rfl
theorem QDw{n nb:Nat}{F H:List Int}(hp:Zv n (prL F H F.length))(hF:∀i:Nat,i<F.length→gt F i<nb)(hH:∀i:Nat,i<F.length→(nb:Int)≤gt H i)(hn:∀i j:Nat,i<F.length→j<F.length→gt F i=gt F j→i=j)
  {x y:Nat} (hx:nb≤x∧x<n) (hy:nb≤y∧y<n) (e:gt (X6 n (prL F H F.length)) x=gt (X6 n (prL F H F.length)) y):x=y:=by
 let φ:Int→Int:=fun v=>if v<nb then (match (List.range F.length).find? (fun t:Nat=>decide (gt F t=v)) with|some t=>gt H t|none=> -1-v) else v
 have key:∀i:Nat,i<(prL F H F.length).length→φ (gt (prL F H F.length) i).a=φ (gt (prL F H F.length) i).b:=fun i hi=>by
  rw[ZY] at hi
  rw[QbO hi]
  have h1:φ (gt H i)=gt H i:=if_neg (by have:=hH i hi;omega)
  have h2:φ (gt F i)=gt H i:=by
   show (if gt F i<(nb:Int) then _ else _)=_
   rw[if_pos (hF i hi)]
   cases hf:(List.range F.length).find? (fun t:Nat=>decide (gt F t=gt F i)) with
   |none=>
    have:=List.find?_eq_none.1 hf i (by simpa using hi)
    simp at this
   |some t=>
    have ht:=List.find?_some hf
    have hm:=List.mem_of_find?_eq_some hf
    simp at ht hm
    rw[hn t i hm hi ht]
  rw[h1,h2]
 have f1:=QcF hp key _ (Qf _) x hx.2
 have f2:=QcF hp key _ (Qf _) y hy.2
 have e':gt (X3 n (prL F H F.length) (prL F H F.length).length) x=gt (X3 n (prL F H F.length) (prL F H F.length).length) y:=e
 rw[e',f2] at f1
 have g1:φ (x:Int)=x:=if_neg (by omega)
 have g2:φ (y:Int)=y:=if_neg (by omega)
 rw[g1,g2] at f1
 omega
theorem SOk.fN(hs:SOk s){i:Nat}(hi:i<s.a.n.length):gt (poF s).n i=gt s.f.n i∧gt (poH s).n i=(s.b.n.length:Int)+gt s.g.n i:=by
 obtain⟨k,hk,hk2⟩:=gtI (hs.f.nd i hi).1
 obtain⟨j,hj,hj2⟩:=gtI (hs.g.nd i hi).1
 simp only[poF,poH,QY,idM,inR]
 rw[Xi (by rw[hs.f.ln];exact hi),Xi (by rw[hs.g.ln];exact hi),hk2,hj2,XN hk,Y4 hj]
 exact⟨rfl,rfl⟩
theorem SOk.fE(hs:SOk s){i:Nat}(hi:i<s.a.e.length):gt (poF s).e i=gt s.f.e i∧gt (poH s).e i=(s.b.e.length:Int)+gt s.g.e i:=by
 obtain⟨k,hk,hk2⟩:=gtI (hs.f.ed i hi).1
 obtain⟨j,hj,hj2⟩:=gtI (hs.g.ed i hi).1
 simp only[poF,poH,QY,idM,inR]
 rw[Xi (by rw[hs.f.le];exact hi),Xi (by rw[hs.g.le];exact hi),hk2,hj2,XN hk,Y4 hj]
 exact⟨rfl,rfl⟩
theorem SOk.kN(hs:SOk s){i:Nat}(hi:i<s.c.n.length):gt (poK s).n i=gt (poQ s).n ((s.b.n.length+i:Nat):Int):=by
 simp only[poK,QY,inR]
 rw[Xi (by rw[Xh];exact hi),Y4 hi,show (s.b.n.length:Int)+i=((s.b.n.length+i:Nat):Int) by omega]
theorem SOk.kE(hs:SOk s){i:Nat}(hi:i<s.c.e.length):gt (poK s).e i=gt (poQ s).e ((s.b.e.length+i:Nat):Int):=by
 simp only[poK,QY,inR]
 rw[Xi (by rw[Xh];exact hi),Y4 hi,show (s.b.e.length:Int)+i=((s.b.e.length+i:Nat):Int) by omega]
theorem SOk.injN(hs:SOk s)(hn:s.f.n.Nodup):(poK s).n.Nodup:=by
 have hc:=J3 hs.uF hs.uH
 have hl:=JH s.b s.c
 have lF:=hs.uF.ln
 have lf:=hs.f.ln
 refine Qkn fun i j hi hj e=>?_
 rw[hs.k.ln] at hi hj
 rw[hs.kN hi,hs.kN hj] at e
 have e2:=(hc.iffN (i:=s.b.n.length+i) (k:=s.b.n.length+j) (by omega) (by omega)).1 e
 have:=QDw (nb:=s.b.n.length) (QbP hs.uF hs.uH) (fun t ht=>by rw[(hs.fN (by omega)).1];exact (hs.f.nd t (by omega)).1.2) (fun t ht=>by rw[(hs.fN (by omega)).2];have:=(hs.g.nd t (by omega)).1.1;omega)
  (fun t u ht hu e=>by rw[(hs.fN (by omega)).1,(hs.fN (by omega)).1] at e;exact Y0 hn (by omega) (by omega) e) (x:=s.b.n.length+i) (y:=s.b.n.length+j) (by omega) (by omega) e2
 omega
theorem SOk.injE(hs:SOk s)(hn:s.f.e.Nodup):(poK s).e.Nodup:=by
 have hc:=J3 hs.uF hs.uH
 have hl:=JH s.b s.c
 have lF:=hs.uF.le
 have lf:=hs.f.le
 refine Qkn fun i j hi hj e=>?_
 rw[hs.k.le] at hi hj
 rw[hs.kE hi,hs.kE hj] at e
 have e2:=(hc.iffE (i:=s.b.e.length+i) (k:=s.b.e.length+j) (by omega) (by omega)).1 e
 have:=QDw (nb:=s.b.e.length) (QbQ hs.uF hs.uH) (fun t ht=>by rw[(hs.fE (by omega)).1];exact (hs.f.ed t (by omega)).1.2) (fun t ht=>by rw[(hs.fE (by omega)).2];have:=(hs.g.ed t (by omega)).1.1;omega)
  (fun t u ht hu e=>by rw[(hs.fE (by omega)).1,(hs.fE (by omega)).1] at e;exact Y0 hn (by omega) (by omega) e) (x:=s.b.e.length+i) (y:=s.b.e.length+j) (by omega) (by omega) e2
 omega
theorem SOk.inj(hs:SOk s)(h:Zr s.a s.b s.f=true):Zr s.c (poG s) (poK s)=true:=by
 obtain⟨h1,h2⟩:=(Qko hs.f).1 h
 exact (Qko hs.k).2 ⟨hs.injN h1,hs.injE h2⟩
def Sp.sw(s:Sp):Sp:=⟨s.a,s.c,s.b,s.g,s.f⟩
theorem SOk.sw(hs:SOk s):SOk s.sw:=⟨hs.g,hs.f,fun h=>hs.s (by simp only[Big,Sp.sw] at*;omega)⟩
end
theorem QDx{α:Type}[Inhabited α]{l:List α}{q:List Int}{z:List α}:∀{n:Nat},(∀i:Nat,i<n→0≤gt q i∧gt q i<z.length)→(∀i j:Nat,i<n→j<n→gt q i=gt q j→i=j)→∀i:Nat,i<n→gt (XR l q z n) (gt q i)=gt l i
 |0,_,_,i,hi=>by omega
 |n+1,hb,hn,i,hi=>by
  obtain⟨b1,b2⟩:=hb i hi
  obtain⟨b3,b4⟩:=hb n (by omega)
  obtain⟨k,hk⟩:=Ye b1
  rw[XR,hk,Y2 (by rw[Z9];omega)]
  by_cases c:(gt q n).toNat=k
  ·rw[if_pos c]
   rw[hn n i (by omega) hi (by omega)]
  ·rw[if_neg c,←hk]
   refine QDx (fun i hi=>hb i (by omega)) (fun i j hi hj=>hn i j (by omega) (by omega)) i ?_
   by_cases x:i=n
   ·subst x;omega
   ·omega
structure PermI(q:List Int)(n:Nat):Prop where
 l:q.length=n
 b:∀i:Nat,i<n→0≤gt q i∧gt q i<n
 j:∀i k:Nat,i<n→k<n→gt q i=gt q k→i=k
theorem PermI.of{l:List Int}{n:Nat}(h:l.Perm (Xf 0 n)):PermI l n:=by
 have hl:l.length=n:=by rw[h.length_eq,Xh]
 have hn:l.Nodup:=h.symm.nodup_iff.1 (QhS n)
 exact⟨hl,fun i hi=>nums_mem.1 (h.mem_iff.1 (gt_mem (by omega) (by omega))),fun i k hi hk e=>Y0 hn (by omega) (by omega) e⟩
theorem PermI.nodup{l:List Int}{n:Nat}(h:PermI l n):l.Nodup:=Qkn fun i j hi hj e=>h.j i j (by rw[←h.l];exact hi) (by rw[←h.l];exact hj) e
end
def QDy:LL:=[qB 2 0,qB 3 1,qa 4 [.nl 1,.nl 3],qa 5 [.nl 1,.nl 1],qi 6 0]
def QDz(F:Fn):LL:=[qL 14 2 2,qL 15 2 3,qc 16 (F "N") [.t 14,.t 15],qm 7 16]
def QDA:LL:=[qm 17 7,qk .neq 18 17 0]
def QDB:LL:=[qu 19 [.nl 1,.nl 3] [],qu 20 [.nl 1,.nl 1] [],qm 21 7,qs 2 4 19,qs 2 5 20,qm 6 21]
def QDC:LL:=[qa 8 [.nl 1,.nl 3]]
def QDD:LL:=[qf 22 0 3,ql 23 1 22,qz 24 23,qi 25 0]
def QDE:LL:=[qo .lss 26 25 24]
def QDF:LL:=[qd 27 1 23 25,ql 28 1 27,qm 10 28]
def QDG:LL:=[qf 29 0 8,ql 30 1 29,qf 31 0 2,ql 32 1 31,qm 33 10,qd 34 1 32 33,ql 35 1 34,qQp 36 (.buildSl 1 8 (.int .i64 (0)) 1 [(0,.t 35)]),qp 37 1 8 30 36,qf 38 0 8,qs 1 38 37]
def QDH:LL:=[qk .add 39 25 1,qm 25 39]
def Qkp:LC:=QQ [.reg QDE [2,3,4,5,8,23,24,25,26],.cond (.t 26) .skip (.exit 0),.block 1 (QQ [.reg QDF [2,3,4,5,8,10,23,24,25],.dreg [(1,none,[],true),(7,none,[1],false)] QDG [2,3,4,5,8,23,24,25]]),.reg QDH [2,3,4,5,8,23,24,25]]
def QDI:LL:=[qf 40 1 3,ql 41 1 40,qz 42 41,qi 43 0]
def QDJ:LL:=[qo .lss 44 43 42]
def QDK:LL:=[qd 45 1 41 43,ql 46 1 45,qm 12 46]
def QDL:LL:=[qf 47 1 2,ql 48 1 47,qm 49 12,qd 50 3 48 49,qL 51 3 50,qa 13 [.int .i64 (0),.int .i64 (0),.int .i64 (0)],qs 3 13 51]
def QDM(F:Fn):LL:=[qf 53 0 3,ql 54 1 53,qf 55 1 13,ql 56 1 55,qc 57 (F "J") [.t 54,.t 56],qm 52 57,qx 58 52 0,qx 59 52 1,qf 60 1 13,qs 1 60 58]
def QDN(F:Fn):LL:=[qf 62 0 3,ql 63 1 62,qf 64 2 13,ql 65 1 64,qc 66 (F "J") [.t 63,.t 65],qm 61 66,qx 67 61 0,qx 68 61 1,qf 69 2 13,qs 1 69 67]
def QDO:LL:=[qf 70 1 8,ql 71 1 70,qL 72 3 13,qQp 73 (.buildSl 3 24 (.agg [.int .i64 (0),.int .i64 (0),.int .i64 (0)]) 1 [(0,.t 72)]),qp 74 3 24 71 73,qf 75 1 8,qs 1 75 74]
def QDP:LL:=[qk .add 76 43 1,qm 43 76]
def Qkq(F:Fn):LC:=QQ [.reg QDJ [2,3,4,5,8,41,42,43,44],.cond (.t 44) .skip (.exit 2),.block 3 (QQ [.reg QDK [2,3,4,5,8,12,41,42,43],.reg QDL [2,3,4,5,8,13,41,42,43],.reg (QDM F) [2,3,4,5,8,13,41,42,43],.reg (QDN F) [2,3,4,5,8,13,41,42,43],.reg QDO [2,3,4,5,8,41,42,43]]),.reg QDP [2,3,4,5,8,41,42,43]]
def QDQ(F:Fn):LL:=[qL 77 2 8,qf 78 0 3,ql 79 1 78,qc 80 (F "a") [.t 79],qf 81 1 3,ql 82 1 81,qc 83 (F "a") [.t 82],qu 84 [.nl 1,.nl 1] [(0,1,.t 80),(1,1,.t 83)],qs 2 4 77,qs 2 5 84,qi 6 0]
def Qkr(F:Fn):LC:=QQ [.reg QDy [2,3,4,5],QQ [.reg (QDz F) [2,3,4,5,7],.reg QDA [2,3,4,5,7,18],.cond (.t 18) (QQ [.reg QDB [4,5,6],.ret]) .skip],.reg QDC [2,3,4,5,8],QQ [.reg QDD [2,3,4,5,8,23,24,25],.block 0 (.loop [2,3,4,5,8,23,24,25] Qkp)],QQ [.reg QDI [2,3,4,5,8,41,42,43],.block 2 (.loop [2,3,4,5,8,41,42,43] (Qkq F))],.dreg [(0,none,[],true),(3,none,[0],true),(5,(some 16),[3],false),(6,none,[0],false)] (QDQ F) [4,5,6],.ret]
def exL(g:G)(pn pe:List Int):List E:=pe.map fun k=>⟨(gt g.e k).t,(Y5 pn (gt g.e k).f:Int),(Y5 pn (gt g.e k).o:Int)⟩
def ptG(g:G)(p:Mo):G:=⟨thr p.n g.n,exL g p.n p.e⟩
def exR(g:G)(p:Mo):G×Mo×Int:=if Yf g p≠0 then (g0,m0,Yf g p) else (ptG g p,p,0)
attribute [go_sem] QDy QDz QDA QDB QDC QDD QDE QDF QDG QDH QDI QDJ QDK QDL QDM QDN QDO QDP QDQ Qkr
section
variable (P:Program) (F:String→Nat)
def QeH:Prop:=∀(g:G)(p:Mo),p.sm→FC P (F "U") [gD g,mD p] (.tup [gA (exR g p).1,mA (exR g p).2.1,.int .i64 (exR g p).2.2]) []
end
section
variable {P:Program} {F:String→Nat} {α:Type}
theorem Je(g:G)(pn pe:List Int):(exL g pn pe).length=pe.length:=by simp [exL]
theorem QDR{g:G}{pn pe:List Int}{i:Nat}(h:i<pe.length):exL g pn (pe.take (i+1))=exL g pn (pe.take i)++[⟨(gt g.e (gt pe i)).t,(Y5 pn (gt g.e (gt pe i)).f:Int),(Y5 pn (gt g.e (gt pe i)).o:Int)⟩]:=by
 rw[Yk h];simp [exL]
theorem QYa(hv:QcM P F)(hb:Qes P F)(hc:Qag P F)(g:G)(p:Mo)(h1:p.sm):W P (Qkr F) (Done [.c 4 true 2,.c 5 true 2,.t 6] [] (.tup [gA (exR g p).1,mA (exR g p).2.1,.int .i64 (exR g p).2.2]) []) (init [gD g,mD p]):=by
 refine QZ ?_
 have r1:=hv g p h1.1 h1.2
 have hR:exR g p=if Yf g p≠0 then (g0,m0,Yf g p) else (ptG g p,p,0):=rfl
 have h0:Yf g p=0→PK g p:=fun h=>validP_ok.1 h
 generalize Yf g p=v at*
 rw[hR]
 clear hR
 obtain⟨gn,ge⟩:=g
 obtain⟨pn,pe⟩:=p
 simp only[gD,mD] at*
 simp(disch:=omega)only[go_sem]
 refine QT r1 ?_
 simp(disch:=omega)only[go_sem]
 refine XX (fun c=>?_) (fun c=>?_)
 ·simp(disch:=omega)only[go_sem]
  simp [c,mA,gA,m0,g0,QR,eds]
 have hk:=h0 c
 have hl:=hk.len
 have hs:=Q8 hk.v
 rw[if_neg (by simp [c])]
 clear h0 r1
 simp only[ptG,gA,mA] at*
 have rb:=fun x=>hb pn x hk.n.p (by omega)
 simp(disch:=omega)only[go_sem]
 refine Q5 (fun i:Nat=>⟨[(2,.pt 0 0),(3,.pt 1 0),(4,.pt 4 0),(5,.pt 7 0),(8,.pt 10 0),(23,.lst 1 (QR pn)),(24,.int .i64 pn.length),(25,.int .i64 i)],
  [(0,.box [.lst 1 (QR gn),.lst 3 (eds ge)]),(1,.box [.lst 1 (QR pn),.lst 1 (QR pe)]),(2,.arr 1 []),(3,.arr 3 []),(4,.box [.sl 2 0 0,.sl 3 0 0]),(5,.arr 1 []),(6,.arr 1 []),(7,.box [.sl 5 0 0,.sl 6 0 0]),
   (8,.arr 1 (QR (thr (pn.take i) gn))),(9,.arr 3 []),(10,.box [.sl 8 0 i,.sl 9 0 0])],11⟩) (fun i=>i≤pn.length) (fun i=>pn.length-i) 0 ?_ ?_ ?_
 ·simp(disch:=omega)only[go_sem]
  rfl
 ·simp
 ·intro i hi
  have tl:(thr (pn.take i) gn).length=i:=by rw[Xp,Qj];omega
  by_cases e:i<pn.length
  ·have d1:decide ((i:Int)<pn.length)=true:=Qd (by omega)
   have hb1:=hk.n.b _ (gt_mem (l:=pn) (j:=(i:Int)) (by omega) (by omega))
   simp only at hb1
   have hst:=Qcy (b:=gn) e
   simp(disch:=omega)only[go_sem,Qkp,d1,tl]
   exact⟨i+1,by simp [hst],by omega,by omega⟩
  ·have d1:decide ((i:Int)<pn.length)=false:=Qc (by omega)
   obtain rfl:i=pn.length:=by omega
   rw[List.take_length] at tl
   simp(disch:=omega)only[go_sem,Qkp,d1,tl]
   refine Q5 (fun i:Nat=>⟨[(2,.pt 0 0),(3,.pt 1 0),(4,.pt 4 0),(5,.pt 7 0),(8,.pt 10 0),(41,.lst 1 (QR pe)),(42,.int .i64 pe.length),(43,.int .i64 i)],
    [(0,.box [.lst 1 (QR gn),.lst 3 (eds ge)]),(1,.box [.lst 1 (QR pn),.lst 1 (QR pe)]),(2,.arr 1 []),(3,.arr 3 []),(4,.box [.sl 2 0 0,.sl 3 0 0]),(5,.arr 1 []),(6,.arr 1 []),(7,.box [.sl 5 0 0,.sl 6 0 0]),
     (8,.arr 1 (QR (thr pn gn))),(9,.arr 3 (eds (exL ⟨gn,ge⟩ pn (pe.take i)))),(10,.box [.sl 8 0 pn.length,.sl 9 0 i])],11⟩) (fun i=>i≤pe.length) (fun i=>pe.length-i) 0 ?_ ?_ ?_
   ·simp(disch:=omega)only[go_sem]
    rfl
   ·simp
   ·intro i hi
    have el:(exL ⟨gn,ge⟩ pn (pe.take i)).length=i:=by rw[Je,Qj];omega
    by_cases e:i<pe.length
    ·have d1:decide ((i:Int)<pe.length)=true:=Qd (by omega)
     have hb1:=hk.e.b _ (gt_mem (l:=pe) (j:=(i:Int)) (by omega) (by omega))
     simp only at hb1
     have hst:=QDR (g:=⟨gn,ge⟩) (pn:=pn) e
     simp only at hst
     have rf:=rb (gt ge (gt pe i)).f
     have ro:=rb (gt ge (gt pe i)).o
     simp(disch:=omega)only[go_sem,Qkq,d1,el]
     refine QT rf ?_
     simp(disch:=omega)only[go_sem]
     refine QT ro ?_
     simp(disch:=omega)only[go_sem,el]
     exact⟨i+1,by simp [hst],by omega,by omega⟩
    ·have d1:decide ((i:Int)<pe.length)=false:=Qc (by omega)
     obtain rfl:i=pe.length:=by omega
     rw[List.take_length] at el
     have rc1:=hc pn (by omega)
     have rc2:=hc pe (by omega)
     simp(disch:=omega)only[go_sem,Qkq,d1,tl,el]
     refine QT rc1 ?_
     simp(disch:=omega)only[go_sem]
     refine QT rc2 ?_
     simp(disch:=omega)only[go_sem,tl,el]
     rfl
theorem QDS{l:List Int}(h:l.Pairwise (·<·)){i:Nat}(hi:i<l.length):Y5 l (gt l i)=i:=
 (QAh h (Nat.le_of_lt hi) (fun k hk=>QcN h hk hi) fun k hk hk2=>by
  by_cases e:i=k
  ·rw[e];omega
  ·have:=QcN h (i:=i) (j:=k) (by omega) hk2;omega).1
theorem QeI{l:List Int}(h:l.Pairwise (·<·)){x:Int}(hx:x∈l):∃i:Nat,i<l.length∧Y5 l x=i∧gt l i=x:=by
 obtain⟨i,h1,rfl⟩:=X2 hx
 exact⟨i,h1,QDS h h1,rfl⟩
theorem QDT{l:List Int}(h:l.Pairwise (·<·)){x:Int}(hx:x∈l):idx (fun y=>decide (x=y)) l 0=Y5 l x:=by
 have hne:idx (fun y=>decide (x=y)) l 0≠ -1:=fun e=>by
  have:=QyJ _ l 0 (by omega) e x hx
  simp at this
 obtain⟨k,h1,h2,h3,_⟩:=Qep _ l 0 hne
 have hk:x=gt l k:=by simpa using h3
 rw[h1,hk,QDS h h2]
 omega
theorem QeJ{g:G}{pn pe:List Int}{i:Nat}(h:i<pe.length):gt (exL g pn pe) i=⟨(gt g.e (gt pe i)).t,(Y5 pn (gt g.e (gt pe i)).f:Int),(Y5 pn (gt g.e (gt pe i)).o:Int)⟩:=by
 rw[Xc (by rw[Je];exact h),Xc h]
 simp [exL]
theorem Qks{g:G}{p:Mo}(h:PK g p):MOk (ptG g p) g p:=by
 have hl:=h.len
 have vs:=Q8 h.v
 have en:∀x∈p.n,∃i:Nat,i<p.n.length∧Y5 p.n x=i∧gt p.n i=x:=fun x hx=>QeI h.n.p hx
 have ln:(ptG g p).n.length=p.n.length:=Xp _ _
 have le:(ptG g p).e.length=p.e.length:=Je _ _ _
 refine⟨Qa4 (by rw[ln];omega) (by rw[le];omega) (fun x hx=>?_) (fun x hx=>?_),h.v,ln.symm,le.symm,fun i hi=>?_,fun i hi=>?_⟩
 ·obtain⟨i,hi,rfl⟩:=X2 hx
  rw[ln] at hi
  have hb:=h.n.b _ (gt_mem (l:=p.n) (j:=(i:Int)) (by omega) (by omega))
  simp only[ptG]
  rw[Xi hi]
  exact vs.2.2.1 _ (gt_mem hb.1 hb.2)
 ·obtain⟨i,hi,rfl⟩:=X2 hx
  rw[le] at hi
  have hm:=gt_mem (l:=p.e) (j:=(i:Int)) (by omega) (by omega)
  have hb:=h.e.b _ hm
  obtain⟨e1,e2,e3⟩:=Zt h.v hb
  obtain⟨a,a1,a2,_⟩:=en _ (h.d _ hm).1
  obtain⟨b,b1,b2,_⟩:=en _ (h.d _ hm).2
  rw[ln]
  simp only[ptG]
  rw[QeJ hi,a2,b2]
  exact Jr e1 (by simp only;omega) (by simp only;omega)
 ·rw[ln] at hi
  have hb:=h.n.b _ (gt_mem (l:=p.n) (j:=(i:Int)) (by omega) (by omega))
  refine⟨hb,?_⟩
  simp only[ptG]
  rw[Xi hi]
 ·rw[le] at hi
  have hm:=gt_mem (l:=p.e) (j:=(i:Int)) (by omega) (by omega)
  have hb:=h.e.b _ hm
  obtain⟨a,a1,a2,a3⟩:=en _ (h.d _ hm).1
  obtain⟨b,b1,b2,b3⟩:=en _ (h.d _ hm).2
  refine⟨hb,?_⟩
  simp only[ptG]
  rw[QeJ hi]
  simp only
  rw[a2,b2,a3,b3]
  exact⟨trivial,rfl,rfl⟩
end
section
variable (P:Program) (F:String→Nat)
end
section
variable {P:Program} {F:String→Nat} {α:Type}
theorem MOk.nb{a b:G}{m:Mo}(k:MOk a b m):∀x∈m.n,0≤x∧x<b.n.length:=fun x hx=>by
 obtain⟨i,hi,rfl⟩:=X2 hx
 exact (k.nd i (by have:=k.ln;omega)).1
theorem MOk.eb{a b:G}{m:Mo}(k:MOk a b m):∀x∈m.e,0≤x∧x<b.e.length:=fun x hx=>by
 obtain⟨i,hi,rfl⟩:=X2 hx
 exact (k.ed i (by have:=k.le;omega)).1
end
end Go.Am
