/- Contracts and what they rest on: AmPc. -/
import Derived.Test.YtgllpjliaepbdaaGreatAmPb
import Derived.Laws.Tables
import Derived.Laws.Slices
set_option linter.unusedVariables false
set_option linter.unusedSimpArgs false
set_option linter.unnecessarySimpa false
namespace Go.Am
open Go
section
variable {P:Program} {B:Base} {κ:Nat→Option KI} {hp hp':qHp} {F:Nat→Prop} {w:World} {sl:qSl} {tm:Array Value} {df:List Deferred} {n:Nat} {d:D}
theorem Qhc{α β:Type}{f:α→Option β}:∀{l:List α}{m:List β},l.mapM f=some m→∀{i:Nat}{a:α},l[i]?=some a→∃b,f a=some b∧m[i]?=some b
 |[],m,h,i,a,ha=>by simp at ha
 |x::l,m,h,i,a,ha=>by
  simp only[List.mapM_cons,Option.bind_eq_bind,Option.pure_def] at h
  cases hx:f x with
  |none=>simp [hx] at h
  |some b=>
   cases hl:l.mapM f with
   |none=>simp [hx,hl] at h
   |some m'=>
    simp [hx,hl] at h
    subst h
    cases i with
    |zero=>simp at ha;subst ha;exact⟨b,hx,rfl⟩
    |succ i=>simpa using Qhc hl (by simpa using ha)
theorem QeA{t:TypeId}{i off m:Nat}{ag:Bool}(h:JV P t i=some (off,m,ag)):∃fs f,P.underlying t=some (.struct fs)∧fs[i]?=some f∧f.offset=off∧Xi P f.type=some m∧Zd P f.type=some ag∧m≠0:=by
 unfold JV at h
 split at h
 ·rename_i fs hfs
  split at h
  ·rename_i f hf
   split at h
   ·rename_i m' ag' h1 h2
    split at h
    ·cases h
    ·rename_i h0
     simp only[Qb,Qc] at h
     obtain⟨rfl,rfl,rfl⟩:=h
     exact⟨fs,f,hfs,hf,rfl,h1,h2,h0⟩
   ·cases h
  ·cases h
 ·cases h
theorem Qm7(h:RH B κ hp F w)(hs:RS B κ hp w sl tm){o:Oper}{t:TypeId}{ps:Array (Nat×Operand)}(ho:o.op=.build t ps){fs:Array Field}(hu:P.underlying t=some (.struct fs)){pls:List (Nat×Nat)}(hpl:Qej P fs=some pls)
  {z:List D} (hz:zOf P t=some z) {l:List (Nat×Nat×X)} (hl:(cPs ps.toList).bind (cFs P t)=some l) (he:eff n sl hp (.build z l)=some (d,hp')):
  Res P B κ hp hp' (Fr F n) w ((execOp (Act.eval ⟨tm,df⟩) o).run P w) d:=by
 simp only[eff] at he
 cases hb:Zc sl l z with
 |none=>simp [hb] at he
 |some cs=>
  simp only[hb,Option.map_some,Qb,Qc] at he
  obtain⟨rfl,rfl⟩:=he
  cases hl1:cPs ps.toList with
  |none=>simp [hl1] at hl
  |some l1=>
   simp only[hl1,Option.bind_some] at hl
   obtain⟨v,_,hv,hm⟩:=QcR (w:=w) hz
   obtain⟨g1,g2⟩:=QbN (w:=w) (I:=Im B κ hp w) (κ:=κ) hm
   obtain⟨us,e1,e2,e3⟩:=Qhb (df:=df) hs (place:=(pls.toArray[·]?)) hl1 (Qha (fun i off m ag hf=>by
    obtain⟨fs',f,h1,h2,h3,h4,_,_⟩:=QeA hf
    rw[hu] at h1;cases h1
    obtain⟨b,hb1,hb2⟩:=Qhc hpl (show fs.toList[i]?=some f by simpa using h2)
    unfold Xi at h4
    cases hi:P.info? f.type with
    |none=>simp [hi] at h4
    |some ti=>
     simp [hi] at h4 hb1
     subst hb1
     simpa [h3,h4] using hb2) hl) hb g1 g2
   refine Res.pure h Fr.sub (v:=.agg us.toArray) ?_ (by simp only[MR];exact⟨_,rfl,by simpa using e3,by simpa using e2⟩)
   have hbt:P.built t (ps.map fun (i,x)=>(i,Act.eval ⟨tm,df⟩ x)).toList=some us.toArray:=by
    unfold Program.built
    cases hit:P.info? t with
    |none=>simp [hit] at hv
    |some it=>
     cases hzz:it.zero with
     |none=>simp [hit,hzz] at hv
     |some z'=>
      simp [hit,hzz] at hv
      subst hv
      unfold Qej at hpl
      simp only[hu,hzz,hpl]
      simpa using e1
   simp [execOp,ho,run_build w t _ _ hbt]
theorem Qhd{m:Nat}:∀(l:List (Nat×X)),Qbb (fun i=>some (i*m,m)) l (l.map fun p=>(p.1*m,m,p.2))
 |[]=>trivial
 |(i,x)::l=>⟨rfl,rfl,Qhd l⟩
theorem Qm8(h:RH B κ hp F w)(hs:RS B κ hp w sl tm){o:Oper}{t:TypeId}{ps:Array (Nat×Operand)}(ho:o.op=.build t ps){k:Nat}{e:TypeId}(hu:P.underlying t=some (.array k e)){m:Nat}(hm:Xi P e=some m)
  {z:List D} (hz:zOf P t=some z) {l:List (Nat×X)} (hl:cPs ps.toList=some l) (he:eff n sl hp (.build z (l.map fun p=>(p.1*m,m,p.2)))=some (d,hp')):
  Res P B κ hp hp' (Fr F n) w ((execOp (Act.eval ⟨tm,df⟩) o).run P w) d:=by
 simp only[eff] at he
 cases hb:Zc sl (l.map fun p=>(p.1*m,m,p.2)) z with
 |none=>simp [hb] at he
 |some cs=>
  simp only[hb,Option.map_some,Qb,Qc] at he
  obtain⟨rfl,rfl⟩:=he
  obtain⟨v,_,hv,hmz⟩:=QcR (w:=w) hz
  obtain⟨g1,g2⟩:=QbN (w:=w) (I:=Im B κ hp w) (κ:=κ) hmz
  obtain⟨us,e1,e2,e3⟩:=Qhb (df:=df) hs hl (Qhd (m:=m) l) hb g1 g2
  refine Res.pure h Fr.sub (v:=.agg us.toArray) ?_ (by simp only[MR];exact⟨_,rfl,by simpa using e3,by simpa using e2⟩)
  have hbt:P.built t (ps.map fun (i,x)=>(i,Act.eval ⟨tm,df⟩ x)).toList=some us.toArray:=by
   unfold Program.built
   cases hit:P.info? t with
   |none=>simp [hit] at hv
   |some it=>
    cases hzz:it.zero with
    |none=>simp [hit,hzz] at hv
    |some z'=>
     simp [hit,hzz] at hv
     subst hv
     unfold Xi at hm
     cases hie:P.info? e with
     |none=>simp [hie] at hm
     |some ie=>
      simp [hie] at hm
      subst hm
      simp only[hu,hzz,hie]
      simpa using e1
  simp [execOp,ho,run_build w t _ _ hbt]
theorem Qm9(h:RH B κ hp F w)(hs:RS B κ hp w sl tm){o:Oper}{t:TypeId}{xo:Operand}{i:Nat}(ho:o.op=.fieldAddr t xo i){x:X}(hx:cX xo=some x){off m:Nat}{ag:Bool}(hf:JV P t i=some (off,m,ag))
  (he:eff n sl hp (.fad off x)=some (d,hp')):Res P B κ hp hp' (Fr F n) w ((execOp (Act.eval ⟨tm,df⟩) o).run P w) d:=by
 simp only[eff] at he
 obtain⟨fs,f,h1,h2,h3,h4,_,h5⟩:=QeA hf
 have run:∀b o',Act.eval ⟨tm,df⟩ xo=.pointer (some ⟨b,o',none⟩)→(execOp (Act.eval ⟨tm,df⟩) o).run P w=.ok (.value (.pointer (some ⟨b,o'+off,none⟩))) w:=by
  intro b o' hv
  simp [execOp,ho,Instr.fieldAt,run_underlying h1,h2,Instr.sureAddr,hv,fieldPlace,ZZ h4,h5,h3,Zt]
 cases hd:ev sl x with
 |none=>simp [hd] at he
 |some dx=>
  have hv:=Xd (df:=df) hs hx hd
  cases dx<;>simp only[hd,reduceCtorEq] at he
  case ref cs=>
   split at he
   ·rename_i hlen
    simp only[Qb,Qc] at he
    obtain⟨rfl,rfl⟩:=he
    simp only[MR,DR] at hv
    obtain⟨_,b,o',us,hv,hb,hmem,hpc⟩:=hv
    refine Res.pure h Fr.sub (run b o' hv) ?_
    simp only[MR,DR]
    refine⟨trivial,b,o'+off,us.drop off,rfl,hb,?_,hpc.drop off⟩
    have:=Mem.sub (off:=off) (m:=us.length) hmem
    rwa [Qq (by simp)] at this
   ·cases he
  case pt id o'=>
   simp only[Qb,Qc] at he
   obtain⟨rfl,rfl⟩:=he
   simp only[MR] at hv
   obtain⟨b,hk,hv⟩:=hv
   exact Res.pure h Fr.sub (run b o' hv) (by simp only[MR];exact⟨b,hk,rfl⟩)
  case pe id j o'=>
   simp only[Qb,Qc] at he
   obtain⟨rfl,rfl⟩:=he
   simp only[MR] at hv
   obtain⟨b,sz,tot,hk,hv⟩:=hv
   exact Res.pure h Fr.sub (run b _ hv) (by simp only[MR];exact⟨b,sz,tot,hk,by rw[QA]⟩)
theorem Qhe{I:Nat→Prop}{t:TypeId}{ag:Bool}{m off:Nat}(ha:Zd P t=some ag)(hz:Xi P t=some m){cs:List D}{v:Value}(hv:MR w I κ (.agg cs) v)(hc:Yv ag off m cs=some d):
  ∃vs u,v=.agg vs∧(Go.part t vs off).run P w=.ok u w∧MR w I κ d u:=by
 simp only[MR] at hv
 obtain⟨vs,rfl,h1,h2⟩:=hv
 obtain⟨g1,g2⟩:=QbO hc
 have hl:=h2.length
 have hms:=((h2.take off).2.take m).1
 obtain⟨k1,k2⟩:=Qey hms (fun u hu=>h1 u (QM (Qw hu))) g2
 refine⟨vs,_,rfl,?_,k2⟩
 cases ag
 ·have hm1:=k1 rfl
  have hlen:1≤m:=by
   rcases Nat.eq_zero_or_pos m with h0|h0
   ·subst h0;simp at hm1
   ·exact h0
  have hlt:off<vs.size:=by simp at hl;omega
  have:((vs.toList.drop off).take m).headD undef=vs[off]:=by
   rw[List.drop_eq_getElem_cons (by simpa using hlt)]
   obtain⟨m',rfl⟩:∃m',m=m'+1:=⟨m-1,by omega⟩
   simp
  simp only[Bool.false_eq_true,if_false,this]
  simp [Go.part,QcQ ha,hlt]
 ·simp only[Go.part,Sem.run_bind,QcQ ha,Result.andThen_ok,if_true,ZZ hz,Sem.run_pure]
  congr 2
  apply Array.ext'
  simp [List.extract_eq_take_drop]
theorem Qna(h:RH B κ hp F w)(hs:RS B κ hp w sl tm){o:Oper}{t:TypeId}{xo:Operand}{i:Nat}(ho:o.op=.field t xo i){x:X}(hx:cX xo=some x){off m:Nat}{ag:Bool}(hf:JV P t i=some (off,m,ag))
  (he:eff n sl hp (.fld ag off m x)=some (d,hp')):Res P B κ hp hp' (Fr F n) w ((execOp (Act.eval ⟨tm,df⟩) o).run P w) d:=by
 simp only[eff] at he
 obtain⟨fs,f,h1,h2,h3,h4,h6,h5⟩:=QeA hf
 cases hd:ev sl x with
 |none=>simp [hd] at he
 |some dx=>
  have hv:=Xd (df:=df) hs hx hd
  cases dx<;>simp only[hd,reduceCtorEq] at he
  rename_i cs
  cases hc:Yv ag off m cs with
  |none=>simp [hc] at he
  |some d'=>
   simp only[hc,Option.map_some,Qb,Qc] at he
   obtain⟨rfl,rfl⟩:=he
   obtain⟨vs,u,e1,e2,e3⟩:=Qhe h6 h4 hv hc
   refine Res.pure h Fr.sub (v:=u) ?_ e3
   simp [execOp,ho,Instr.field,run_underlying h1,h2,e1,asAgg,h3,e2]
theorem Qay{x:D}{j:Int}(h:asI x=some j):x=.int .i64 j:=by
 unfold asI at h
 split at h
 ·simp only[Qb] at h;rw[h]
 ·cases h
theorem Qnb(h:RH B κ hp F w)(hs:RS B κ hp w sl tm){o:Oper}{t:TypeId}{xo io:Operand}(ho:o.op=.index t xo io){x i:X}(hx:cX xo=some x)(hi:cX io=some i){m:Nat}{e:TypeId}(hu:P.underlying t=some (.array m e)){sz:Nat}{ag:Bool}(hz:Xi P e=some sz)(ha:Zd P e=some ag)
  (he:eff n sl hp (.idx ag m sz x i)=some (d,hp')):Res P B κ hp hp' (Fr F n) w ((execOp (Act.eval ⟨tm,df⟩) o).run P w) d:=by
 simp only[eff] at he
 cases hd:ev sl x with
 |none=>simp [hd] at he
 |some dx=>
  cases hj:(ev sl i).bind asI with
  |none=>cases dx<;>simp [hd,hj] at he
  |some j=>
   have hv:=Xd (df:=df) hs hx hd
   cases hdi:ev sl i with
   |none=>simp [hdi] at hj
   |some di=>
    simp only[hdi,Option.bind_some] at hj
    have hvi:=Xd (df:=df) hs hi hdi
    rw[Qay hj,MR.int] at hvi
    rw[hdi] at he
    cases dx<;>simp only[hd,hj,Option.bind_some,reduceCtorEq] at he
    rename_i cs
    split at he
    ·rename_i hb
     cases hc:Yv ag (j.toNat*sz) sz cs with
     |none=>simp [hc] at he
     |some d'=>
      simp only[hc,Option.map_some,Qb,Qc] at he
      obtain⟨rfl,rfl⟩:=he
      obtain⟨vs,u,e1,e2,e3⟩:=Qhe ha hz hv hc
      refine Res.pure h Fr.sub (v:=u) ?_ e3
      simp [execOp,ho,Instr.index,asIntOf,hvi,run_underlying hu,e1,hb,ZZ hz,e2]
    ·cases he
theorem RH.entSz(h:RH B κ hp F w){id sz b sz' tot:Nat}(he:Am.entSz hp id=some sz)(hk:κ id=some (.arr b sz' tot)):sz'=sz:=by
 unfold Am.entSz at he
 split at he
 ·rename_i hl
  have:=h.ent id _ hl
  simp only[Qb] at he
  subst he
  simp only[ER,hk,Qb,reduceCtorEq,false_and,false_or,KI.arr.injEq] at this
  obtain⟨_,_,_,_,_,_,⟨_,h,_⟩,_⟩:=this
  exact h
 ·rename_i hl
  have:=h.ent id _ hl
  simp only[Qb] at he
  subst he
  simp only[ER,hk,Qb,reduceCtorEq,false_and,false_or,KI.arr.injEq] at this
  obtain⟨_,_,_,_,⟨_,h,_⟩,_⟩:=this
  exact h
 ·rename_i hl
  have:=h.ent id _ hl
  simp only[Qb] at he
  subst he
  simp only[ER,hk,Qb,KI.arr.injEq] at this
  obtain⟨_,_,_,_,_,_,⟨_,h,_⟩,_⟩:=this
  exact h
 ·cases he
theorem Qnc(h:RH B κ hp F w)(hs:RS B κ hp w sl tm){o:Oper}{t:TypeId}{xo io:Operand}(ho:o.op=.indexAddr t xo io){x i:X}(hx:cX xo=some x)(hi:cX io=some i){e:TypeId}(hu:P.underlying t=some (.slice e)){sz:Nat}(hz:Xi P e=some sz)
  (he:eff n sl hp (.iad sz x i)=some (d,hp')):Res P B κ hp hp' (Fr F n) w ((execOp (Act.eval ⟨tm,df⟩) o).run P w) d:=by
 simp only[eff] at he
 cases hd:ev sl x with
 |none=>simp [hd] at he
 |some dx=>
  cases hj:(ev sl i).bind asI with
  |none=>cases dx<;>simp [hd,hj] at he
  |some j=>
   have hv:=Xd (df:=df) hs hx hd
   cases hdi:ev sl i with
   |none=>simp [hdi] at hj
   |some di=>
    simp only[hdi,Option.bind_some] at hj
    have hvi:=Xd (df:=df) hs hi hdi
    rw[Qay hj,MR.int] at hvi
    rw[hdi] at he
    have run:∀b off len cap,Act.eval ⟨tm,df⟩ xo=.slice (some ⟨b,off,none⟩) len cap→0≤j∧j<len→(execOp (Act.eval ⟨tm,df⟩) o).run P w=.ok (.value (.pointer (some ⟨b,off+j.toNat*sz,none⟩))) w:=by
     intro b off len cap hv hj
     simp [execOp,ho,Instr.indexAt,asIntOf,hvi,run_underlying hu,hv,hj,ZZ hz,Zt]
    cases dx<;>simp only[hd,hj,Option.bind_some,reduceCtorEq] at he
    case lst sz' xs=>
     split at he
     ·rename_i hb
      cases hxe:xs[j.toNat]? with
      |none=>simp [hxe] at he
      |some el=>
       simp only[hxe,Qb,Qc] at he
       obtain⟨rfl,rfl⟩:=he
       have hjl:=(Qp.1 hxe).1
       simp only[MR,DR] at hv
       rcases hv.2.2 with⟨_,rfl⟩|⟨b,off,cap,us,hv,_,_,hb2,hM,hP⟩
       ·simp at hxe
       ·refine Res.pure h Fr.sub (run b off _ cap hv ⟨hb.1,by omega⟩) ?_
        obtain⟨a,u,z,rfl,ha,hu',h1,_,_⟩:=hP.get hxe
        have hM':=(Mem.append.1 (Mem.append.1 hM).2).1
        rw[ha,hb.2] at hM'
        simp only[MR,DR]
        exact⟨trivial,b,_,u,rfl,hb2,hM',h1.cells⟩
     ·cases he
    case sl id lo len=>
     split at he
     ·rename_i hb
      simp only[Qb,Qc] at he
      obtain⟨rfl,rfl⟩:=he
      simp only[MR] at hv
      rcases hv with⟨_,_,_,_,rfl⟩|⟨b,sz',tot,off,cap,hk,hv,h1,h2,h3,h4⟩
      ·omega
      ·have hsz:sz'=sz:=h.entSz hb.2.2 hk
       refine Res.pure h Fr.sub (run b off _ cap hv ⟨hb.1,hb.2.1⟩) ?_
       simp only[MR]
       refine⟨b,sz',tot,hk,?_⟩
       rw[h4 (.inl (by omega)),hsz,Nat.add_zero,Nat.add_mul]
     ·cases he
theorem Qnd(h:RH B κ hp F w)(hs:RS B κ hp w sl tm){o:Oper}{t:TypeId}{xo io:Operand}(ho:o.op=.indexAddr t xo io){x i:X}(hx:cX xo=some x)(hi:cX io=some i){m:Nat}{e:TypeId}(hu:P.underlying t=some (.array m e)){sz:Nat}(hz:Xi P e=some sz)
  (he:eff n sl hp (.iaa m sz x i)=some (d,hp')):Res P B κ hp hp' (Fr F n) w ((execOp (Act.eval ⟨tm,df⟩) o).run P w) d:=by
 simp only[eff] at he
 cases hd:ev sl x with
 |none=>simp [hd] at he
 |some dx=>
  cases hj:(ev sl i).bind asI with
  |none=>cases dx<;>simp [hd,hj] at he
  |some j=>
   have hv:=Xd (df:=df) hs hx hd
   cases hdi:ev sl i with
   |none=>simp [hdi] at hj
   |some di=>
    simp only[hdi,Option.bind_some] at hj
    have hvi:=Xd (df:=df) hs hi hdi
    rw[Qay hj,MR.int] at hvi
    rw[hdi] at he
    have run:∀b off,Act.eval ⟨tm,df⟩ xo=.pointer (some ⟨b,off,none⟩)→0≤j∧j<m→(execOp (Act.eval ⟨tm,df⟩) o).run P w=.ok (.value (.pointer (some ⟨b,off+j.toNat*sz,none⟩))) w:=by
     intro b off hv hj
     simp [execOp,ho,Instr.indexAt,asIntOf,hvi,run_underlying hu,hv,Instr.sureAddr,hj,ZZ hz,Zt]
    cases dx<;>simp only[hd,hj,Option.bind_some,reduceCtorEq] at he
    case ref cs=>
     split at he
     ·rename_i hb
      simp only[Qb,Qc] at he
      obtain⟨rfl,rfl⟩:=he
      simp only[MR,DR] at hv
      obtain⟨_,b,off,us,hv,hb2,hM,hpc⟩:=hv
      refine Res.pure h Fr.sub (run b off hv ⟨hb.1,hb.2.1⟩) ?_
      simp only[MR,DR]
      refine⟨trivial,b,_,us.drop (j.toNat*sz),rfl,hb2,?_,hpc.drop _⟩
      have:=Mem.sub (off:=j.toNat*sz) (m:=us.length) hM
      rwa [Qq (by simp)] at this
     ·cases he
    case pt id off=>
     split at he
     ·rename_i hb
      simp only[Qb,Qc] at he
      obtain⟨rfl,rfl⟩:=he
      simp only[MR] at hv
      obtain⟨b,hk,hv⟩:=hv
      exact Res.pure h Fr.sub (run b off hv hb) (by simp only[MR];exact⟨b,hk,rfl⟩)
     ·cases he
theorem Qne(h:RH B κ hp F w)(hs:RS B κ hp w sl tm){o:Oper}{c:Call}(ho:o.op=.call c)(hc:c.callee=.builtin .len){t:TypeId}(ht:c.argTypes.toList=[t]){xo:Operand}(ha:c.args.toList=[xo]){x:X}(hx:cX xo=some x){e:TypeId}(hu:P.underlying t=some (.slice e))
  (he:eff n sl hp (.len x)=some (d,hp')):Res P B κ hp hp' (Fr F n) w ((execOp (Act.eval ⟨tm,df⟩) o).run P w) d:=by
 simp only[eff] at he
 have ht':c.argTypes=#[t]:=by apply Array.ext';simpa using ht
 have ha':c.args=#[xo]:=by apply Array.ext';simpa using ha
 have run:∀a len cap,Act.eval ⟨tm,df⟩ xo=.slice a len cap→(execOp (Act.eval ⟨tm,df⟩) o).run P w=.ok (.value (.int .i64 len)) w:=by
  intro a len cap hv
  simp [execOp,ho,resolve,hc,ha',ht',invoke,builtin,Builtin.len_,run_underlying hu,hv,goInt]
 cases hd:ev sl x with
 |none=>simp [hd] at he
 |some dx=>
  have hv:=Xd (df:=df) hs hx hd
  cases dx<;>simp only[hd,Qb,Qc,reduceCtorEq] at he
  all_goals obtain⟨rfl,rfl⟩:=he
  case nl=>simp only[MR] at hv;exact Res.pure h Fr.sub (run _ _ _ hv) (by simp [MR])
  case lst=>
   simp only[MR,DR] at hv
   rcases hv.2.2 with⟨⟨_,hv2⟩,rfl⟩|⟨b,off,cap,us,hv2,_⟩
   ·exact Res.pure h Fr.sub (run _ _ _ hv2) (by simp [MR])
   ·exact Res.pure h Fr.sub (run _ _ _ hv2) (by simp [MR])
  case sl=>
   simp only[MR] at hv
   rcases hv with⟨_,_,hv,_,rfl⟩|⟨b,sz',tot,off,cap,hk,hv,_⟩
   ·exact Res.pure h Fr.sub (run _ _ _ hv) (by simp [MR])
   ·exact Res.pure h Fr.sub (run _ _ _ hv) (by simp [MR])
theorem Qaz(hs:RS B κ hp w sl tm):∀{xo:List Operand}{xs:List X}{ds:List D},QU cX xo=some xs→QU (ev sl) xs=some ds→MRs w (Im B κ hp w) κ ds (xo.map (Act.eval ⟨tm,df⟩))
 |[],xs,ds,h1,h2=>by
  simp only[QU,Qb] at h1
  subst h1
  simp only[QU,Qb] at h2
  subst h2
  simp [MRs]
 |a::l,xs,ds,h1,h2=>by
  simp only[QU] at h1
  split at h1
  ·rename_i b m hb hm
   simp only[Qb] at h1
   subst h1
   simp only[QU] at h2
   split at h2
   ·rename_i d ds' hd hds
    simp only[Qb] at h2
    subst h2
    simp only[List.map_cons,MRs]
    exact⟨_,_,rfl,Xd hs hb hd,Qaz hs hm hds⟩
   ·cases h2
  ·cases h1
theorem Qhf{I:Nat→Prop}:∀{l:List D}{vs:List Value}{a:D}{va:Value},MR w I κ a va→MRs w I κ l vs→YU Qa4 a l=some d→∃v,(vs.foldlM Builtin.min2 va).run P w=.ok v w∧MR w I κ d v
 |[],vs,a,va,ha,hl,h=>by
  simp only[MRs] at hl
  subst hl
  simp only[YU,Qb] at h
  subst h
  exact⟨va,by simp,ha⟩
 |b::l,vs,a,va,ha,hl,h=>by
  simp only[MRs] at hl
  obtain⟨vb,vs',rfl,hb,hl⟩:=hl
  simp only[YU] at h
  split at h
  ·rename_i c hc
   unfold Qa4 at hc
   split at hc
   ·rename_i k x k' y
    split at hc
    ·rename_i hk
     subst hk
     simp only[Qb] at hc
     subst hc
     simp only[MR.int] at ha hb
     subst ha;subst hb
     obtain⟨v,h1,h2⟩:=Qhf (a:=.int k (if y<x then y else x)) (va:=.int k (if y<x then y else x)) (by simp [MR]) hl h
     exact⟨v,by simpa [List.foldlM_cons,Builtin.min2] using h1,h2⟩
    ·cases hc
   ·cases hc
  ·cases h
theorem Qhg{I:Nat→Prop}:∀{l:List D}{vs:List Value}{a:D}{va:Value},MR w I κ a va→MRs w I κ l vs→YU Qa5 a l=some d→∃v,(vs.foldlM Builtin.max2 va).run P w=.ok v w∧MR w I κ d v
 |[],vs,a,va,ha,hl,h=>by
  simp only[MRs] at hl
  subst hl
  simp only[YU,Qb] at h
  subst h
  exact⟨va,by simp,ha⟩
 |b::l,vs,a,va,ha,hl,h=>by
  simp only[MRs] at hl
  obtain⟨vb,vs',rfl,hb,hl⟩:=hl
  simp only[YU] at h
  split at h
  ·rename_i c hc
   unfold Qa5 at hc
   split at hc
   ·rename_i k x k' y
    split at hc
    ·rename_i hk
     subst hk
     simp only[Qb] at hc
     subst hc
     simp only[MR.int] at ha hb
     subst ha;subst hb
     obtain⟨v,h1,h2⟩:=Qhg (a:=.int k (if x<y then y else x)) (va:=.int k (if x<y then y else x)) (by simp [MR]) hl h
     exact⟨v,by simpa [List.foldlM_cons,Builtin.max2] using h1,h2⟩
    ·cases hc
   ·cases hc
  ·cases h
theorem Qnf(h:RH B κ hp F w)(hs:RS B κ hp w sl tm){o:Oper}{c:Call}(ho:o.op=.call c)(hc:c.callee=.builtin .min){xs:List X}(hx:QU cX c.args.toList=some xs)
  (he:eff n sl hp (.mn xs)=some (d,hp')):Res P B κ hp hp' (Fr F n) w ((execOp (Act.eval ⟨tm,df⟩) o).run P w) d:=by
 simp only[eff] at he
 cases hds:QU (ev sl) xs with
 |none=>simp [hds] at he
 |some ds=>
  have hms:=Qaz (df:=df) hs hx hds
  cases ds with
  |nil=>simp [hds] at he
  |cons a l=>
   cases hf:YU Qa4 a l with
   |none=>simp [hds,hf] at he
   |some d'=>
    simp only[hds,hf,Option.map_some,Qb,Qc] at he
    obtain⟨rfl,rfl⟩:=he
    simp only[MRs] at hms
    obtain⟨va,vs,hvs,ha,hl⟩:=hms
    obtain⟨v,h1,h2⟩:=Qhf (P:=P) ha hl hf
    refine Res.pure h Fr.sub (v:=v) ?_ h2
    simp [execOp,ho,resolve,hc,invoke,builtin,Builtin.min_,hvs,h1]
theorem Qng(h:RH B κ hp F w)(hs:RS B κ hp w sl tm){o:Oper}{c:Call}(ho:o.op=.call c)(hc:c.callee=.builtin .max){xs:List X}(hx:QU cX c.args.toList=some xs)
  (he:eff n sl hp (.mx xs)=some (d,hp')):Res P B κ hp hp' (Fr F n) w ((execOp (Act.eval ⟨tm,df⟩) o).run P w) d:=by
 simp only[eff] at he
 cases hds:QU (ev sl) xs with
 |none=>simp [hds] at he
 |some ds=>
  have hms:=Qaz (df:=df) hs hx hds
  cases ds with
  |nil=>simp [hds] at he
  |cons a l=>
   cases hf:YU Qa5 a l with
   |none=>simp [hds,hf] at he
   |some d'=>
    simp only[hds,hf,Option.map_some,Qb,Qc] at he
    obtain⟨rfl,rfl⟩:=he
    simp only[MRs] at hms
    obtain⟨va,vs,hvs,ha,hl⟩:=hms
    obtain⟨v,h1,h2⟩:=Qhg (P:=P) ha hl hf
    refine Res.pure h Fr.sub (v:=v) ?_ h2
    simp [execOp,ho,resolve,hc,invoke,builtin,Builtin.max_,hvs,h1]
theorem Qnh(h:RH B κ hp F w)(hs:RS B κ hp w sl tm){o:Oper}{xo:Operand}{i:Nat}(ho:o.op=.extract xo i){x:X}(hx:cX xo=some x)
  (he:eff n sl hp (.ext x i)=some (d,hp')):Res P B κ hp hp' (Fr F n) w ((execOp (Act.eval ⟨tm,df⟩) o).run P w) d:=by
 simp only[eff] at he
 cases hd:ev sl x with
 |none=>simp [hd] at he
 |some dx=>
  have hv:=Xd (df:=df) hs hx hd
  cases dx<;>simp only[hd,reduceCtorEq] at he
  rename_i ds
  cases hi:ds[i]? with
  |none=>simp [hi] at he
  |some d'=>
   simp only[hi,Qb,Qc] at he
   obtain⟨rfl,rfl⟩:=he
   simp only[MR] at hv
   obtain⟨vs,hv,hms⟩:=hv
   obtain⟨v,h1,h2⟩:=hms.get hi
   have h1':vs[i]?=some v:=by simpa using h1
   refine Res.pure h Fr.sub (v:=v) ?_ h2
   simp [execOp,ho,Instr.extract,hv,h1']
theorem Qni(h:RH B κ hp F w)(hs:RS B κ hp w sl tm){o:Oper}{f:Nat}{first caps:Array Operand}(ho:o.op=.makeFunc (.func f) first caps)(hf:first.isEmpty=true){xs:List X}(hx:QU cX caps.toList=some xs)
  (he:eff n sl hp (.mkf f xs)=some (d,hp')):Res P B κ hp hp' (Fr F n) w ((execOp (Act.eval ⟨tm,df⟩) o).run P w) d:=by
 simp only[eff] at he
 cases hds:QU (ev sl) xs with
 |none=>simp [hds] at he
 |some ds=>
  simp only[hds,Option.map_some,Qb,Qc] at he
  obtain⟨rfl,rfl⟩:=he
  have hms:=Qaz (df:=df) hs hx hds
  have hf':first=#[]:=by simpa using hf
  refine Res.pure h Fr.sub (v:=.func (.func f) #[] (caps.map (Act.eval ⟨tm,df⟩))) ?_ (by simp only[MR];exact⟨_,rfl,by simpa using hms⟩)
  simp [execOp,ho,Instr.makeFunc,hf']
end
end Go.Am
namespace Go.Am
open Go
section
variable {P:Program} {B:Base} {κ:Nat→Option KI} {hp hp':qHp} {F:Nat→Prop} {w:World} {sl:qSl} {tm:Array Value} {df:List Deferred} {n:Nat} {d:D}
def Rd(w:World)(I:Nat→Prop)(κ:Nat→Option KI)(hp:qHp)(id:Nat):Prop:=
 ∀sz xs,lk hp id=some (.arr sz xs)∨lk hp id=some (.imm sz xs)∨(∃s' l,lk hp id=some (.nst s' l none)∧Zb s' l=some xs∧sz=1)→xs.length≤QS∧((κ id=some (.nil sz)∧xs=[])∨∃b tot us,κ id=some (.arr b sz tot)∧I b∧Mem w b 0 us∧PE w I sz xs us)
theorem Qhh{I I0:Nat→Prop}{id lo len sz:Nat}{xs:List D}{v:Value}(hx:xs.length≤QS)(hr:(κ id=some (.nil sz)∧xs=[])∨∃b tot us,κ id=some (.arr b sz tot)∧I b∧Mem w b 0 us∧PE w I sz xs us)
  (hv:MR w I0 κ (.sl id lo len) v) (hl:lo+len≤xs.length):DR w I (.lst sz ((xs.drop lo).take len)) v []:=by
 have hlen:((xs.drop lo).take len).length=len:=by simp;omega
 simp only[MR] at hv
 simp only[DR,hlen]
 refine⟨trivial,by omega,?_⟩
 rcases hr with⟨h1,rfl⟩|⟨b,tot,us,h1,hb,hM,hP⟩
 ·rw[h1] at hv
  rcases hv with⟨_,_,hv,rfl,rfl⟩|⟨_,_,_,_,_,hv,_⟩
  ·exact .inl ⟨⟨_,hv⟩,by simp⟩
  ·cases hv
 ·rw[h1] at hv
  rcases hv with⟨_,hv,_⟩|⟨b',sz',tot',off,cap,hv,rfl,h2,h3,h4,h5⟩
  ·cases hv
  ·simp only[Qb,KI.arr.injEq] at hv
   obtain⟨rfl,rfl,rfl⟩:=hv
   right
   by_cases h0:0<len∨lo=0
   ·have hoff:=h5 h0
    obtain⟨u1,u2,rfl,p1,p2⟩:=hP.take lo
    obtain⟨u3,u4,rfl,p3,p4⟩:=p2.take len
    have hm3:=(Mem.append.1 (Mem.append.1 hM).2).1
    have hl1:=p1.length
    rw[Qo,Nat.min_eq_left (by omega)] at hl1
    rw[hl1,Nat.zero_add,←hoff] at hm3
    exact⟨b,off,cap,u3,rfl,h2,h3,hb,hm3,p3⟩
   ·have:len=0:=by omega
    subst this
    exact⟨b,off,cap,[],rfl,h2,h3,hb,Mem.nil,by simp [PE]⟩
theorem Z0{I I0:Nat→Prop}(hk:Keep w w I0 I){e:D}{v:Value}(hr:∀id∈d.ids0,Rd w I κ hp id)(hv:MR w I0 κ d v)(h:Xl hp d=some e):DR w I e v []:=by
 cases d<;>simp only[Xl,reduceCtorEq,Qb] at h
 case int=>subst h;simpa [MR,DR] using hv
 case bool=>subst h;simpa [MR,DR] using hv
 case str=>subst h;simpa [MR,DR] using hv
 case nf=>subst h;simpa [MR,DR] using hv
 case nl=>
  simp only[MR] at hv
  split at h<;>cases h<;>simp [DR,hv,QS]
 case lst=>subst h;simp only[MR] at hv;exact hv.mono hk _ _ _ (by simp)
 case sl id lo len=>
  have key:∀sz xs,(lk hp id=some (.arr sz xs)∨lk hp id=some (.imm sz xs)∨(∃s' l,lk hp id=some (.nst s' l none)∧Zb s' l=some xs∧sz=1))→(if lo=0∧len=xs.length then some (.lst sz xs) else if lo+len≤xs.length then some (D.lst sz ((xs.drop lo).take len)) else none)=some e→DR w I e v []:=by
   intro sz xs hl h
   obtain⟨h1,h2⟩:=hr id (by simp [D.ids0]) sz xs hl
   split at h
   ·rename_i hc
    simp only[Qb] at h
    subst h
    have:=Qhh h1 h2 hv (by omega)
    rw[hc.1,hc.2] at this
    simpa using this
   ·split at h
    ·simp only[Qb] at h
     subst h
     exact Qhh h1 h2 hv (by assumption)
    ·cases h
  split at h
  ·rename_i hl;exact key _ _ (.inl hl) h
  ·rename_i hl;exact key _ _ (.inr (.inl hl)) h
  ·rename_i s' l hl
   split at h
   ·rename_i hc
    simp only[Qi] at h
    obtain⟨es,hes,rfl⟩:=h
    have hlen:=(Qet hes).1
    refine key 1 es (.inr (.inr ⟨s',l,hl,hes,rfl⟩)) ?_
    rw[if_pos ⟨hc.1,by omega⟩]
   ·cases h
  ·cases h
theorem Qbc{I I0:Nat→Prop}(hk:Keep w w I0 I):∀{cs es:List D}{vs:List Value},(∀c∈cs,∀id∈c.ids0,Rd w I κ hp id)→MRs w I0 κ cs vs→(∀u∈vs,u.oneCell'=true)→QU (Xl hp) cs=some es→PC w I es vs
 |[],es,vs,_,hm,_,h=>by
  simp only[QU,Qb] at h
  subst h
  simpa [MRs,PC] using hm
 |c::cs,es,vs,hr,hm,ho,h=>by
  simp only[QU] at h
  split at h
  ·rename_i e es' he hes
   simp only[Qb] at h
   subst h
   simp only[MRs] at hm
   obtain⟨v,vs',rfl,hv,hm⟩:=hm
   simp only[PC]
   exact⟨v,vs',rfl,ho v (by simp),Z0 hk (fun id hi=>hr c (by simp) id hi) hv he,Qbc hk (fun c hc=>hr c (by simp [hc])) hm (fun u hu=>ho u (by simp [hu])) hes⟩
  ·cases h
theorem QcS{I I0:Nat→Prop}(hk:Keep w w I0 I){e:D}{v:Value}(hr:∀id∈d.ids,Rd w I κ hp id)(hv:MR w I0 κ d v)(h:pur hp d=some e):PC w I e.cells v.cells.toList:=by
 have one:∀e:D,DR w I e v []→v.oneCell'=true→e.cells=[e]→PC w I e.cells v.cells.toList:=fun e hd h1 hc=>by
  rw[hc,show v.cells=#[v] from by cases v<;>simp [Value.oneCell'] at h1<;>rfl]
  simp only[PC]
  exact⟨v,[],rfl,h1,hd,rfl⟩
 have hlst:∀sz xs,DR w I (.lst sz xs) v []→v.oneCell'=true:=fun sz xs hd=>by
  simp only[DR] at hd
  rcases hd.2.2 with⟨⟨_,rfl⟩,_⟩|⟨b,off,cap,us,rfl,_⟩<;>rfl
 cases d<;>simp only[pur] at h
 case agg cs=>
  cases hc:QU (Xl hp) cs with
  |none=>simp [hc] at h
  |some l=>
   simp only[hc,Option.map_some,Qb] at h
   subst h
   simp only[MR] at hv
   obtain⟨vs,rfl,h1,h2⟩:=hv
   exact Qbc hk (fun c hc id hi=>hr id (by simp only[D.ids,Qr];exact⟨c,hc,hi⟩)) h2 h1 hc
 case int k m=>
  have hd:=Z0 hk (fun id hi=>hr id (by simpa [D.ids] using hi)) hv h
  simp only[Xl,Qb] at h
  subst h
  exact one _ hd (by simp only[DR] at hd;rw[hd.1];rfl) rfl
 case bool b=>
  have hd:=Z0 hk (fun id hi=>hr id (by simpa [D.ids] using hi)) hv h
  simp only[Xl,Qb] at h
  subst h
  exact one _ hd (by simp only[DR] at hd;rw[hd.1];rfl) rfl
 case str b=>
  have hd:=Z0 hk (fun id hi=>hr id (by simpa [D.ids] using hi)) hv h
  simp only[Xl,Qb] at h
  subst h
  exact one _ hd (by simp only[DR] at hd;rw[hd.1];rfl) rfl
 case nf=>
  have hd:=Z0 hk (fun id hi=>hr id (by simpa [D.ids] using hi)) hv h
  simp only[Xl,Qb] at h
  subst h
  exact one _ hd (by simp only[DR] at hd;rw[hd.1];rfl) rfl
 case nl b=>
  have hd:=Z0 hk (fun id hi=>hr id (by simpa [D.ids] using hi)) hv h
  simp only[MR] at hv
  simp only[Xl] at h
  split at h<;>cases h<;>exact one _ hd (by rw[hv];rfl) rfl
 case lst b=>
  have hd:=Z0 hk (fun id hi=>hr id (by simpa [D.ids] using hi)) hv h
  simp only[Xl,Qb] at h
  subst h
  exact one _ hd (hlst _ _ hd) rfl
 case sl id lo len=>
  have hd:=Z0 hk (fun id hi=>hr id (by simpa [D.ids] using hi)) hv h
  have he:∃sz xs,e=.lst sz xs:=by
   simp only[Xl] at h
   split at h<;>(try cases h)
   all_goals
    split at h
    ·first
      |(simp only[Qb] at h;exact⟨_,_,h.symm⟩)
      |(simp only[Qi] at h;obtain⟨es,_,h⟩:=h;exact⟨_,_,h.symm⟩)
    ·first
      |cases h
      |(split at h<;>first|(simp only[Qb] at h;exact⟨_,_,h.symm⟩)|cases h)
  obtain⟨sz,xs,rfl⟩:=he
  exact one _ hd (hlst _ _ hd) rfl
 all_goals simp [Xl] at h
theorem Qbd(l:List Nat):∀(hp:qHp)(id:Nat)(e:Ent),lk hp id=some e→lk (Q9 l hp) id=some (if id∈l then e.frozen else e):=by
 induction l with
 |nil=>intro hp id e h;simpa [Q9] using h
 |cons i l ih=>
  intro hp id e h
  have ff:e.frozen.frozen=e.frozen:=by
   cases e with
   |nst sz l o=>
    cases o with
    |some _=>rfl
    |none=>
     simp only[Ent.frozen]
     cases hes:Zb sz l with
     |none=>simp only[Ent.frozen,hes]
     |some es=>rfl
   |_=>rfl
  simp only[Q9]
  cases hi:lk hp i with
  |none=>
   simp only[]
   rw[ih hp id e h]
   have:id≠i:=fun e=>by rw[e,hi] at h;cases h
   simp [this]
  |some e'=>
   simp only[]
   by_cases hii:id=i
   ·subst hii
    rw[h] at hi
    cases hi
    rw[ih _ id e.frozen (by rw[Xw];simp)]
    simp [ff]
   ·rw[ih _ id e (by rw[Xw,if_neg hii];exact h)]
    simp [hii]
theorem QeB{l:List Nat}(h:RH B κ (Q9 l hp) F w){id:Nat}(hi:id∈l):Rd w (Im B κ (Q9 l hp) w) κ hp id:=by
 intro sz xs hl
 have:lk (Q9 l hp) id=some (.imm sz xs):=by
  rcases hl with hl|hl|⟨s',l',hl,hes,rfl⟩<;>rw[Qbd l hp id _ hl]<;>simp [hi,Ent.frozen]
  rw[hes]
 have:=h.ent id _ this
 simpa only[ER] using this
theorem Qhi{α:Type}(l:List α):∀(m i:Nat),i<m*l.length→(List.replicate m l).flatten[i]?=l[i%l.length]?
 |0,i,h=>by simp at h
 |m+1,i,h=>by
  simp only[List.replicate_succ,List.flatten_cons]
  by_cases hi:i<l.length
  ·rw[Qz hi,Nat.mod_eq_of_lt hi]
  ·rw[QE (by omega),Qhi l m _ (by rw[Nat.succ_mul] at h;omega)]
   congr 1
   rw[←Nat.mod_eq_sub_mod (by omega)]
theorem QcT(z:Array Value)(m:Nat):(madeCells z (m*z.size)).toList=(List.replicate m z.toList).flatten:=by
 apply List.ext_getElem?
 intro i
 by_cases hi:i<m*z.size
 ·rw[Qhi _ _ _ (by simpa using hi)]
  have h0:0<z.size:=by
   rcases Nat.eq_zero_or_pos z.size with h|h
   ·rw[h] at hi;simp at hi
   ·exact h
  have hm:i%z.size<z.size:=Nat.mod_lt _ h0
  simp [madeCells,hi,hm]
 ·have h1:(madeCells z (m*z.size)).toList.length≤i:=by simp [madeCells];omega
  have h2:(List.replicate m z.toList).flatten.length≤i:=by simp;omega
  rw[List.getElem?_eq_none h1,List.getElem?_eq_none h2]
theorem QbP{I:Nat→Prop}{t:TypeId}{z:D}{s:Nat}(h:ZX P t=some z)(ho:Ym s z=true):∃v,(zeroValue t).run P w=.ok v w∧(P.info? t).bind (·.zero)=some v∧P1 w I z v.cells.toList∧v.cells.toList.length=s:=by
 unfold ZX at h
 split at h
 ·rename_i zz ag hz ha
  split at h
  ·rename_i l hl
   obtain⟨v,hv,hv2,hm⟩:=QcR (w:=w) hz
   obtain⟨g1,g2⟩:=QbN (w:=w) (I:=I) (κ:=fun _=>none) hm
   refine⟨v,hv,hv2,?_⟩
   have hpc:PC w I l v.cells.toList:=Qbc (κ:=fun _=>none) (hp:=[]) (I0:=I) ⟨fun _ h=>h,fun _ _=>rfl⟩ (fun c _ id _ sz xs hl=>by simp [lk] at hl) g1 g2 hl
   have hcells:z.cells=l:=by
    cases ag
    ·have:=Qg6 h rfl
     subst this
     cases z<;>simp [Ym] at ho<;>try rfl
     exfalso
     simp only[PC,DR] at hpc
     obtain⟨u,us',_,h1,⟨vs,rfl,_⟩,_⟩:=hpc
     simp [Value.oneCell'] at h1
    ·simp only[ZH,if_true,Qb] at h
     subst h;rfl
   rw[←hcells] at hpc
   exact P1.of_cells ho hpc
  ·cases h
 ·cases h
theorem Qnj{I:Nat→Prop}(hk:Keep w w (Im B κ hp w) I)(hs:RS B κ hp w sl tm){sz:Nat}:∀{ps:List (Nat×Operand)}{l:List (Nat×X)}{es es':List D}{f:List Nat}{us:List Value},
  cPs ps=some l→Yn sl hp sz l es=some (es',f)→(∀id∈f,Rd w I κ hp id)→PE w I sz es us→
  ∃us',Instr.fill (fun i=>some (i*sz,sz)) us.toArray (ps.map fun p=>(p.1,Act.eval ⟨tm,df⟩ p.2))=some us'.toArray∧PE w I sz es' us':=by
 intro ps
 induction ps with
 |nil=>
  intro l es es' f us h1 h2 _ hP
  simp only[cPs,Qb] at h1
  subst h1
  simp only[Yn,Qb,Qc] at h2
  obtain⟨rfl,rfl⟩:=h2
  exact⟨us,by simp [Instr.fill],hP⟩
 |cons p ps ih=>
  obtain⟨i,xo⟩:=p
  intro l es es' f us h1 h2 hr hP
  simp only[cPs] at h1
  split at h1
  ·rename_i x l' hx hl
   simp only[Qb] at h1
   subst h1
   simp only[Yn] at h2
   split at h2
   ·rename_i d hd
    split at h2
    ·rename_i e he
     split at h2
     ·rename_i hc
      cases hb:Yn sl hp sz l' (es.set i e) with
      |none=>simp [hb] at h2
      |some q=>
       obtain⟨q1,q2⟩:=q
       simp only[hb,Option.map_some,Qb,Qc] at h2
       obtain⟨rfl,rfl⟩:=h2
       have hpc:=QcS hk (fun id hi=>hr id (by simp [hi])) (Xd (df:=df) hs hx hd) he
       obtain⟨g1,g2⟩:=P1.of_cells hc.1 hpc
       have hei:es[i]?=some es[i]:=Qn hc.2
       have hP':=hP.set hei g1 g2
       obtain⟨us',e1,e2⟩:=ih hl hb (fun id hi=>hr id (by simp [hi])) hP'
       refine⟨us',?_,e2⟩
       have hul:=hP.length
       have hle:i*sz+sz≤us.length:=by
        rw[hul,←Nat.succ_mul];exact Nat.mul_le_mul_right _ hc.2
       simp only[List.map_cons,Instr.fill]
       have hb:¬((Act.eval ⟨tm,df⟩ xo).cells.size≠sz∨i*sz+(Act.eval ⟨tm,df⟩ xo).cells.size>us.toArray.size):=by
        simp only[List.size_toArray];simp at g2;omega
       rw[if_neg (by simpa using hb)]
       rw[←e1]
       congr 1
       have:=Qg9 (Act.eval ⟨tm,df⟩ xo).cells.toList (i*sz) us (by rw[g2];exact hle)
       rw[←Array.foldl_toList,Array.toList_zipIdx]
       rw[this,g2]
     ·cases h2
    ·cases h2
   ·cases h2
  ·cases h1
theorem Qhj{sz:Nat}:∀{l:List (Nat×X)}{es es':List D}{f:List Nat},Yn sl hp sz l es=some (es',f)→es'.length=es.length
 |[],es,es',f,h=>by simp only[Yn,Qb,Qc] at h;rw[h.1]
 |(i,x)::l,es,es',f,h=>by
  simp only[Yn] at h
  split at h
  ·split at h
   ·rename_i e _
    split at h
    ·cases hq:Yn sl hp sz l (es.set i e) with
     |none=>simp [hq] at h
     |some q=>
      simp only[hq,Option.map_some,Qb,Qc] at h
      rw[←h.1,Qhj hq];simp
    ·cases h
   ·cases h
  ·cases h
theorem QaA{m by_:Nat}(h:Ya m by_=true):m*by_≤140737488355328∧m≤QS:=by
 simpa [Ya] using h
theorem QcU{hp1:qHp}(h:RH B κ hp1 F w)(hF:∀k,k<64→F (n+k)){sz m cap:Nat}{es:List D}{cur:Array Value}{ty:TypeId}{w':World}
  (hw:w'.heap=w.heap.push (.cells cur ty)) (h1:w'.os=w.os) (h2:w'.tape=w.tape) (h3:w'.output=w.output∧w.drawn≤w'.drawn)
  {us:List Value} (hu:∀(j:Nat)(u:Value),us[j]?=some u→cur[j]?=some u) (hP:PE w (Im B κ hp1 w) sz es us) (hm:m=es.length) (hml:m≤QS) (hmc:m≤cap) (hcl:cap≤maxLen) (hcs:cap*sz≤cur.size) {r:Result Next}
  (hr:r=.ok (.value (.slice (some ⟨w.heap.size,0,none⟩) m cap)) w') (hx:Nxt B κ κ hp hp1 w w):
  Res P B κ hp (up hp1 n (.arr sz es)) (Fr F n) w r (.sl n 0 m):=by
 have h0:=hF 0 (by omega)
 obtain⟨g1,g2⟩:=h.new (w':=w') (F':=Fr F n) (m:=n) (ki:=.arr w.heap.size sz cur.size) (ent:=.arr sz es) hw h1 h2 h3 rfl h0 (Fr.ne (k:=0) (by omega)) (fun keep hg=>by
  simp only[ER]
  refine⟨by omega,.inr ⟨_,_,cur,ty,us,Xe,hg,Qg _,Mem.of_cells hg (fun j u hj=>by simpa using hu j u hj),PE.mono keep _ _ _ hP⟩⟩)
 exact⟨_,_,_,.inl hr,g1,hx.trans g2,by simp only[MR];exact .inr ⟨_,_,_,0,cap,Xe,rfl,hmc,hcl,by omega,fun _=>by omega⟩⟩
theorem Qnk(h:RH B κ hp F w)(hs:RS B κ hp w sl tm)(hF:∀k,k<64→F (n+k)){o:Oper}{t e:TypeId}{m:Nat}{ps:Array (Nat×Operand)}(ho:o.op=.buildSlice t m ps)(hu:P.underlying t=some (.slice e)){s by_:Nat}(hz:Xi P e=some s)(hs0:s≠0)(hsm:m*s≤65536)
  {z:D} (hze:ZX P e=some z) (hoe:Ym s z=true) {l:List (Nat×X)} (hl:cPs ps.toList=some l) (he:eff n sl hp (.buildSl s by_ z m l)=some (d,hp')):
  Res P B κ hp hp' (Fr F n) w ((execOp (Act.eval ⟨tm,df⟩) o).run P w) d:=by
 simp only[eff] at he
 split at he
 ·rename_i XM
  obtain⟨f1,f2⟩:=QaA XM
  cases hb:Yn sl hp s l (List.replicate m z) with
  |none=>simp [hb] at he
  |some q=>
   obtain⟨es,f⟩:=q
   simp only[hb,Option.map_some,Qb,Qc] at he
   obtain⟨rfl,rfl⟩:=he
   obtain⟨k1,k2⟩:=h.freezes f
   obtain⟨v,hv,hv2,g1,g2⟩:=QbP (w:=w) (I:=Im B κ (Q9 f hp) w) hze hoe
   have hP0:PE w (Im B κ (Q9 f hp) w) s (List.replicate m z) (List.replicate m v.cells.toList).flatten:=PE.replicate g1 g2 m
   obtain⟨us,e1,e2⟩:=Qnj (df:=df) k2.keep hs hl hb (fun id hi=>QeB k1 hi) hP0
   have hesl:es.length=m:=by
    rw[Qhj hb];simp
   have hus:us.length=m*s:=by rw[e2.length,hesl]
   refine QcU k1 hF (cur:=us.toArray) (ty:=e) (w':={w with heap:=w.heap.push (.cells us.toArray e)}) (cap:=m) (us:=us) rfl rfl rfl ⟨rfl,Qg _⟩ (fun j u hj=>by simpa using hj) e2 hesl.symm f2 (Qg _) (by simp only[QS] at f2;simp only[maxLen];omega) (by simp [hus]) ?_ k2
   have hsz:v.cells.size=s:=by simpa using g2
   have hcells:(madeCells v.cells (m*s))=((List.replicate m v.cells.toList).flatten).toArray:=by
    apply Array.ext'
    have:=QcT v.cells m
    rw[hsz] at this
    simpa using this
   have hle:¬(m*s>2 ^ 24):=by omega
   have hfill:Instr.fill (fun i=>some (i*s,s)) (madeCells v.cells (m*s)) (ps.toList.map fun p=>(p.1,Act.eval ⟨tm,df⟩ p.2))=some us.toArray:=by rw[hcells];exact e1
   have hfill2:Instr.fill (fun i=>some (i*s,s)) ((Array.range (m*s)).map (fun x=>v.cells[x%v.cells.size]!)) (ps.map fun p=>(p.1,Act.eval ⟨tm,df⟩ p.2)).toList=some us.toArray:=by
    simpa [madeCells] using hfill
   by_cases hm0:m*s=0
   ·have hm00:m=0:=by rcases Nat.mul_eq_zero.1 hm0 with h|h;exact h;exact absurd h hs0
    subst hm00
    have hr0:Array.range 0=#[]:=rfl
    have hfill3:Instr.fill (fun i=>some (i*s,s)) #[] (ps.map fun p=>(p.1,Act.eval ⟨tm,df⟩ p.2)).toList=some us.toArray:=by simpa [hr0] using hfill2
    have hfill3':Instr.fill (fun i=>some (i*s,s)) #[] (List.map (fun p=>(p.1,Act.eval ⟨tm,df⟩ p.2)) ps.toList)=some us.toArray:=by simpa using hfill3
    simp [execOp,ho,Instr.buildSlice,run_underlying hu,ZZ hz,newRow,hfill3',hr0]
   ·have hfill2':Instr.fill (fun i=>some (i*s,s)) ((Array.range (m*s)).map (fun x=>v.cells[x%v.cells.size]!)) (List.map (fun p=>(p.1,Act.eval ⟨tm,df⟩ p.2)) ps.toList)=some us.toArray:=by simpa using hfill2
    have hle':¬(16777216<m*s):=by omega
    simp [execOp,ho,Instr.buildSlice,run_underlying hu,ZZ hz,hm0,hle',hv,newRow,hfill2']
 ·cases he
end
end Go.Am
namespace Go.Am
open Go
section
variable {P:Program} {B:Base} {κ:Nat→Option KI} {hp hp':qHp} {F:Nat→Prop} {w:World} {sl:qSl} {tm:Array Value} {df:List Deferred} {n:Nat} {d:D}
theorem QeC{s:Sem Value}{v:Value}{w':World}(h:s.run P w=.ok v w'):(do return Next.value (←s):Sem Next).run P w=.ok (.value v) w':=by
 rw[Sem.run_bind,h];rfl
theorem Qhk(h:RH B κ hp F w)(hs:RS B κ hp w sl tm){o:Oper}{xo:Operand}(ho:o.op=.move xo∨o.op=.assign xo){x:X}(hx:cX xo=some x)
  (he:eff n sl hp (.mov x)=some (d,hp')):Res P B κ hp hp' (Fr F n) w ((execOp (Act.eval ⟨tm,df⟩) o).run P w) d:=by
 simp only[eff] at he
 cases hd:ev sl x with
 |none=>simp [hd] at he
 |some dx=>
  simp only[hd,Option.map_some,Qb,Qc] at he
  obtain⟨rfl,rfl⟩:=he
  refine Res.pure h Fr.sub (v:=Act.eval ⟨tm,df⟩ xo) ?_ (Xd hs hx hd)
  rcases ho with ho|ho<;>simp [execOp,ho]
theorem Qnl(h:RH B κ hp F w){o:Oper}(ho:o.op=.assign (.const (.slice none 0 0))){s:Nat}
  (he:eff n sl hp (.mov (.k (.nl s)))=some (d,hp')):Res P B κ hp hp' (Fr F n) w ((execOp (Act.eval ⟨tm,df⟩) o).run P w) d:=by
 simp only[eff,ev,Option.map_some,Qb,Qc] at he
 obtain⟨rfl,rfl⟩:=he
 exact Res.pure h Fr.sub (v:=.slice none 0 0) (by simp [execOp,ho,Act.eval]) (by simp [MR])
theorem Qnm(h:RH B κ hp F w)(hs:RS B κ hp w sl tm){o:Oper}{co ao bo:Operand}(ho:o.op=.pick co ao bo){c a b:X}(hc:cX co=some c)(ha:cX ao=some a)(hb:cX bo=some b)
  (he:eff n sl hp (.pick c a b)=some (d,hp')):Res P B κ hp hp' (Fr F n) w ((execOp (Act.eval ⟨tm,df⟩) o).run P w) d:=by
 simp only[eff] at he
 split at he
 ·rename_i hcv
  have hv:=Xd (df:=df) hs hc hcv
  rw[MR.bool] at hv
  cases hd:ev sl a with
  |none=>simp [hd] at he
  |some dx=>
   simp only[hd,Option.map_some,Qb,Qc] at he
   obtain⟨rfl,rfl⟩:=he
   refine Res.pure h Fr.sub (v:=Act.eval ⟨tm,df⟩ ao) ?_ (Xd hs ha hd)
   simp [execOp,ho,hv,asBool]
 ·rename_i hcv
  have hv:=Xd (df:=df) hs hc hcv
  rw[MR.bool] at hv
  cases hd:ev sl b with
  |none=>simp [hd] at he
  |some dx=>
   simp only[hd,Option.map_some,Qb,Qc] at he
   obtain⟨rfl,rfl⟩:=he
   refine Res.pure h Fr.sub (v:=Act.eval ⟨tm,df⟩ bo) ?_ (Xd hs hb hd)
   simp [execOp,ho,hv,asBool]
 ·cases he
theorem Qnn(h:RH B κ hp F w)(hs:RS B κ hp w sl tm){o:Oper}{t:TypeId}{xo:Operand}(ho:o.op=.unOp .not t xo){x:X}(hx:cX xo=some x)
  (he:eff n sl hp (.not x)=some (d,hp')):Res P B κ hp hp' (Fr F n) w ((execOp (Act.eval ⟨tm,df⟩) o).run P w) d:=by
 simp only[eff] at he
 split at he
 ·rename_i b hd
  have hv:=Xd (df:=df) hs hx hd
  rw[MR.bool] at hv
  simp only[Qb,Qc] at he
  obtain⟨rfl,rfl⟩:=he
  refine Res.pure h Fr.sub (v:=.bool (!b)) ?_ (by simp [MR])
  simp [execOp,ho,hv,Op.unary]
 ·cases he
theorem Qno(h:RH B κ hp F w)(hs:RS B κ hp w sl tm){o:Oper}{s t:TypeId}{xo:Operand}(ho:o.op=.convert s t xo){x:X}(hx:cX xo=some x){k0 k:IntKind}(hu0:P.underlying s=some (.int k0))(hu:P.underlying t=some (.int k))
  (he:eff n sl hp (.conv k x)=some (d,hp')):Res P B κ hp hp' (Fr F n) w ((execOp (Act.eval ⟨tm,df⟩) o).run P w) d:=by
 simp only[eff] at he
 split at he
 ·rename_i k1 m hd
  have hv:=Xd (df:=df) hs hx hd
  rw[MR.int] at hv
  simp only[Qb,Qc] at he
  obtain⟨rfl,rfl⟩:=he
  refine Res.pure h Fr.sub (v:=.int k (k.wrap m)) ?_ (by simp [MR])
  simp [execOp,ho,hv,convert,run_underlying hu0,run_underlying hu,Conv.intToInt]
 ·cases he
theorem Qnp(h:RH B κ hp F w)(hs:RS B κ hp w sl tm){o:Oper}{op:BinOp}{t u:TypeId}{xo yo:Operand}(ho:o.op=.binOp op t xo yo u){x y:X}(hx:cX xo=some x)(hy:cX yo=some y)
  (he:eff n sl hp (.bin op x y)=some (d,hp')):Res P B κ hp hp' (Fr F n) w ((execOp (Act.eval ⟨tm,df⟩) o).run P w) d:=by
 simp only[eff] at he
 split at he
 ·rename_i a b ha hb
  cases hbd:YT op a b with
  |none=>simp [hbd] at he
  |some d'=>
   simp only[hbd,Option.map_some,Qb,Qc] at he
   obtain⟨rfl,rfl⟩:=he
   obtain⟨v,h1,h2⟩:=Qm2 (P:=P) (op:=op) (t:=t) (x:=xo) (y:=yo) (Xd (df:=df) hs hx ha) (Xd (df:=df) hs hy hb) hbd
   refine Res.pure h Fr.sub (v:=v) ?_ (h2 _)
   simp only[execOp,ho]
   exact QeC h1
 ·cases he
theorem Qhl(h:RH B κ hp F w)(hs:RS B κ hp w sl tm){o:Oper}{neg:Bool}{t u:TypeId}{xo yo:Operand}(ho:o.op=.binOp (if neg then .neq else .eql) t xo yo u){x y:X}(hx:cX xo=some x)(hy:cX yo=some y)(ht:P.underlying t=some .bool)
  (he:eff n sl hp (.eqB neg x y)=some (d,hp')):Res P B κ hp hp' (Fr F n) w ((execOp (Act.eval ⟨tm,df⟩) o).run P w) d:=by
 simp only[eff] at he
 split at he
 ·rename_i a b ha hb
  cases hbd:Qa3 neg a b with
  |none=>simp [hbd] at he
  |some d'=>
   simp only[hbd,Option.map_some,Qb,Qc] at he
   obtain⟨rfl,rfl⟩:=he
   obtain⟨v,h1,h2⟩:=Qm3 (P:=P) (t:=t) ht (x:=xo) (y:=yo) (Xd (df:=df) hs hx ha) (Xd (df:=df) hs hy hb) hbd
   refine Res.pure h Fr.sub (v:=v) ?_ (h2 _)
   simp only[execOp,ho]
   exact QeC h1
 ·cases he
theorem Qhm(h:RH B κ hp F w)(hs:RS B κ hp w sl tm){o:Oper}{neg:Bool}{t u:TypeId}{xo yo:Operand}(ho:o.op=.binOp (if neg then .neq else .eql) t xo yo u){x y:X}(hx:cX xo=some x)(hy:cX yo=some y){m:Nat}(ht:Ze P t=some m)
  (he:eff n sl hp (.eqA m neg x y)=some (d,hp')):Res P B κ hp hp' (Fr F n) w ((execOp (Act.eval ⟨tm,df⟩) o).run P w) d:=by
 simp only[eff] at he
 split at he
 ·rename_i a b ha hb
  split at he
  ·rename_i hl
   cases hc:X3 a b with
   |none=>simp [hc] at he
   |some c=>
    simp only[hc,Option.map_some,Qb,Qc] at he
    obtain⟨rfl,rfl⟩:=he
    obtain⟨v,h1,h2⟩:=Qm4 (neg:=neg) (P:=P) (t:=t) ht (x:=xo) (y:=yo) (Xd (df:=df) hs hx ha) (Xd (df:=df) hs hy hb) hc hl
    refine Res.pure h Fr.sub (v:=v) ?_ (h2 _)
    simp only[execOp,ho]
    exact QeC h1
  ·cases he
 ·cases he
theorem Qnq(h:RH B κ hp F w)(hs:RS B κ hp w sl tm)(hF:∀k,k<64→F (n+k)){o:Oper}{t e:TypeId}{lo co:Operand}(ho:o.op=.makeSlice t lo co)(hsame:Qek lo co=true)(hu:P.underlying t=some (.slice e)){s:Nat}(hz:Xi P e=some s){i:TypeInfo}(hi:P.info? e=some i)
  {z:D} (hze:ZX P e=some z) (hoe:Ym s z=true) {l:X} (hl:cX lo=some l) (he:eff n sl hp (.makeSl s i.bytes z l)=some (d,hp')):
  Res P B κ hp hp' (Fr F n) w ((execOp (Act.eval ⟨tm,df⟩) o).run P w) d:=by
 simp only[eff] at he
 cases hd:ev sl l with
 |none=>simp [hd] at he
 |some dl=>
  cases hj:asI dl with
  |none=>simp [hd,hj] at he
  |some m=>
   simp only[hd,Option.bind_some,hj] at he
   split at he
   ·rename_i hc
    simp only[Qb,Qc] at he
    obtain⟨rfl,rfl⟩:=he
    have hv:=Xd (df:=df) hs hl hd
    rw[Qay hj,MR.int] at hv
    have hv2:Act.eval ⟨tm,df⟩ co=.int .i64 m:=by
     rw[←hv]
     unfold Qek at hsame
     split at hsame<;>simp at hsame<;>subst hsame<;>rfl
    obtain⟨f1,f2⟩:=QaA hc.2
    obtain⟨v,hzv,hzz,g1,g2⟩:=QbP (w:=w) (I:=Im B κ hp w) hze hoe
    have hzero:i.zero=some v:=by simpa [hi] using hzz
    have hsz:i.size=s:=by simpa [Xi,hi] using hz
    have hP:=PE.replicate g1 g2 m.toNat
    have hvs:v.cells.size=s:=by simpa using g2
    have hb:(i.bytes:Int)*m≤281474976710656:=by
     have h1:((i.bytes*m.toNat:Nat):Int)≤281474976710656:=by rw[Nat.mul_comm];omega
     rw[Int.natCast_mul,Int.toNat_of_nonneg hc.1] at h1
     exact h1
    have hm63:m≤9223372036854775807:=by simp only[QS] at f2;omega
    have hr:=run_make (P:=P) w t e i v hu hi hzero .i64 .i64 m m hc.1 (Int.le_refl _) hb hm63
    have hml:(madeCells v.cells (m.toNat*i.size)).toList=(List.replicate m.toNat v.cells.toList).flatten:=by
     rw[hsz,←hvs];exact QcT _ _
    refine QcU h hF (cur:=madeCells v.cells (m.toNat*i.size)) (ty:=e) (w':=w.alloc (.cells (madeCells v.cells (m.toNat*i.size)) e)) (cap:=m.toNat) (us:=(List.replicate m.toNat v.cells.toList).flatten) rfl rfl rfl ⟨rfl,Qg _⟩ (fun j u hj=>by
     rw[←hml] at hj;simpa using hj) hP (by simp) f2 (Qg _) (by simp only[QS] at f2;simp only[maxLen];omega) (by rw[size_madeCells,hsz];exact Qg _) ?_ (Nxt.refl _ _ _ _)
    simp only[execOp,ho,hv,hv2,Sem.run_bind,hr,Result.andThen_ok,Sem.run_pure]
   ·cases he
theorem QcV(hs:RS B κ hp w sl tm){xo:Option Operand}{x:Option X}(hx:Zf xo=some x){d0 j:Int}(hj:Y6 sl d0 x=some j):
  (xo=none∧j=d0)∨∃x0,xo=some x0∧Act.eval ⟨tm,df⟩ x0=.int .i64 j:=by
 cases xo with
 |none=>simp only[Zf,Qb] at hx;subst hx;simp only[Y6,Qb] at hj;exact .inl ⟨rfl,hj.symm⟩
 |some x0=>
  simp only[Zf] at hx
  cases hc:cX x0 with
  |none=>simp [hc] at hx
  |some y=>
   simp only[hc,Option.map_some,Qb] at hx
   subst hx
   simp only[Y6] at hj
   cases hd:ev sl y with
   |none=>simp [hd] at hj
   |some dy=>
    simp only[hd,Option.bind_some] at hj
    have hv:=Xd (df:=df) hs hc hd
    rw[Qay hj,MR.int] at hv
    exact .inr ⟨x0,rfl,hv⟩
theorem QbQ{o:Oper}{t e:TypeId}{xo:Operand}{lo hi:Option Operand}{ρ:Operand→Value}(ho:o.op=.slice t xo lo hi none)(hu:P.underlying t=some (.slice e)){s:Nat}(hz:Xi P e=some s){a:Option Addr}{len cap:Nat}(hv:ρ xo=.slice a len cap)
  {l u:Int} (hl:(lo=none∧l=0)∨∃x0,lo=some x0∧ρ x0=.int .i64 l) (hh:(hi=none∧u=len)∨∃x0,hi=some x0∧ρ x0=.int .i64 u) (h0:0≤l) (h1:l≤u) (h2:u≤len) (h3:len≤cap):
  (execOp ρ o).run P w=.ok (.value (.slice (if cap=l.toNat then a else a.map (·.add (l.toNat*s))) (u.toNat-l.toNat) (cap-l.toNat))) w:=by
 have e1:(Instr.sliceBounds true len cap (lo.map ρ) (hi.map ρ) none).run P w=.ok (l.toNat,u.toNat,cap) w:=by
  rcases hl with⟨rfl,rfl⟩|⟨x0,rfl,hx0⟩<;>rcases hh with⟨rfl,rfl⟩|⟨y0,rfl,hy0⟩
  ·simp [Instr.sliceBounds]
  ·have:0≤u∧u≤(cap:Int):=by omega
   simp [Instr.sliceBounds,Instr.sliceBound,hy0,asIntOf,this]
  ·have:0≤l∧l≤(len:Int):=by omega
   simp [Instr.sliceBounds,Instr.sliceBound,hx0,asIntOf,this]
  ·have g1:0≤u∧u≤(cap:Int):=by omega
   have g2:0≤l∧l≤u:=by omega
   simp only[Instr.sliceBounds,Instr.sliceBound,hx0,hy0,Option.map_some,asIntOf]
   have g3:((u.toNat:Nat):Int)=u:=by omega
   simp [g1,g2,g3]
 simp [execOp,ho,Instr.sliceAt,Instr.slice,run_underlying hu,hv,e1,ZZ hz]
theorem Qnr(h:RH B κ hp F w)(hs:RS B κ hp w sl tm){o:Oper}{t e:TypeId}{xo:Operand}{lo hi:Option Operand}(ho:o.op=.slice t xo lo hi none)(hu:P.underlying t=some (.slice e)){s:Nat}(hz:Xi P e=some s){x:X}(hx:cX xo=some x){lx hx':Option X}(hlo:Zf lo=some lx)(hhi:Zf hi=some hx')
  (he:eff n sl hp (.slc s x lx hx')=some (d,hp')):Res P B κ hp hp' (Fr F n) w ((execOp (Act.eval ⟨tm,df⟩) o).run P w) d:=by
 simp only[eff] at he
 cases hd:ev sl x with
 |none=>simp [hd] at he
 |some dx=>
  have hv:=Xd (df:=df) hs hx hd
  cases hl:Y6 sl 0 lx with
  |none=>cases dx<;>simp only[hd,hl,reduceCtorEq] at he
  |some l=>
   have hlv:=QcV (df:=df) hs hlo hl
   cases dx<;>simp only[hd,hl,reduceCtorEq] at he
   case nl sz'=>
    split at he
    ·rename_i u hh
     have hhv:=QcV (df:=df) hs hhi hh
     split at he
     ·rename_i hc
      obtain⟨rfl,rfl⟩:=hc
      simp only[Qb,Qc] at he
      obtain⟨rfl,rfl⟩:=he
      simp only[MR] at hv
      have:=QbQ (w:=w) ho hu hz hv hlv hhv (Int.le_refl _) (Int.le_refl _) (Int.le_refl _) (Qg _)
      refine Res.pure h Fr.sub this ?_
      simp only[MR]
      simp
     ·cases he
    ·cases he
   case lst sz' xs=>
    split at he
    ·rename_i u hh
     have hhv:=QcV (df:=df) hs hhi hh
     split at he
     ·rename_i hc
      obtain⟨c1,c2,c3,rfl⟩:=hc
      simp only[Qb,Qc] at he
      obtain⟨rfl,rfl⟩:=he
      simp only[MR,DR] at hv
      obtain⟨_,hmax,hv⟩:=hv
      have hlen:((xs.take u.toNat).drop l.toNat).length=u.toNat-l.toNat:=by simp;omega
      rcases hv with⟨⟨p,hv⟩,rfl⟩|⟨b,off,cap,us,hv,hlc,hcl,hb,hM,hP⟩
      ·have:=QbQ (w:=w) ho hu hz hv hlv hhv c1 c2 c3 (Qg _)
       refine Res.pure h Fr.sub this ?_
       simp only[MR,DR]
       refine⟨trivial,by simp [QS],.inl ⟨⟨p,?_⟩,by simp⟩⟩
       have:l.toNat=0:=by simp at c3;omega
       have:u.toNat=0:=by simp at c3;omega
       simp [*]
      ·have:=QbQ (w:=w) ho hu hz hv hlv hhv c1 c2 c3 hlc
       refine Res.pure h Fr.sub this ?_
       simp only[MR,DR,hlen]
       refine⟨trivial,by omega,.inr ?_⟩
       obtain⟨u1,u2,rfl,p1,p2⟩:=hP.take u.toNat
       obtain⟨u3,u4,rfl,p3,p4⟩:=p1.take l.toNat
       have hm4:=(Mem.append.1 (Mem.append.1 hM).1).2
       have hl3:=p3.length
       by_cases hcl2:cap=l.toNat
       ·refine⟨b,off,cap-l.toNat,[],by simp [hcl2],by omega,by omega,hb,Mem.nil,?_⟩
        have:(xs.take u.toNat).drop l.toNat=[]:=List.eq_nil_of_length_eq_zero (by rw[hlen];omega)
        rw[this];simp [PE]
       ·refine⟨b,off+l.toNat*sz',cap-l.toNat,u4,by simp [hcl2,Zt],by omega,by omega,hb,?_,p4⟩
        have e0:u3.length=l.toNat*sz':=by rw[hl3];congr 1;simp;omega
        rw[e0] at hm4;exact hm4
     ·cases he
    ·cases he
   case sl id lo0 len=>
    split at he
    ·rename_i u hh
     have hhv:=QcV (df:=df) hs hhi hh
     split at he
     ·rename_i hc
      obtain⟨c1,c2,c3,c4⟩:=hc
      simp only[Qb,Qc] at he
      obtain⟨rfl,rfl⟩:=he
      simp only[MR] at hv
      rcases hv with⟨sz0,hk,hv,rfl,rfl⟩|⟨b,sz',tot,off,cap,hk,hv,g1,g2,g3,g4⟩
      ·have:=QbQ (w:=w) ho hu hz hv hlv hhv c1 c2 c3 (Qg _)
       refine Res.pure h Fr.sub this ?_
       simp only[MR]
       have h1:l.toNat=0:=by omega
       have h2:u.toNat=0:=by omega
       exact .inl ⟨sz0,hk,by simp [h1,h2],by omega,by omega⟩
      ·have hsz:sz'=s:=h.entSz c4 hk
       subst hsz
       have:=QbQ (w:=w) ho hu hz hv hlv hhv c1 c2 c3 g1
       refine Res.pure h Fr.sub this ?_
       simp only[MR]
       right
       by_cases hcl2:cap=l.toNat
       ·refine⟨b,sz',tot,off,cap-l.toNat,hk,by simp [hcl2],by omega,by omega,?_,fun h0=>?_⟩
        ·have:cap-l.toNat=0:=by omega
         rw[this];simp
         have:=Nat.le_add_right off (cap*sz');omega
        ·rcases h0 with h0|h0
         ·omega
         ·have h1:l.toNat=0:=by omega
          have h2:lo0=0:=by omega
          rw[h1,h2];simp;exact (by have:=g4 (.inr h2);rw[h2] at this;simpa using this)
       ·refine⟨b,sz',tot,off+l.toNat*sz',cap-l.toNat,hk,by simp [hcl2,Zt],by omega,by omega,?_,fun h0=>?_⟩
        ·have e1:l.toNat*sz'+(cap-l.toNat)*sz'=cap*sz':=by rw[←Nat.add_mul];congr 1;omega
         omega
        ·have h0':0<len∨lo0=0:=by rcases h0 with h0|h0<;>omega
         rw[g4 h0',Nat.add_mul]
     ·cases he
    ·cases he
end
end Go.Am
namespace Go.Am
open Go
section
variable {P:Program} {B:Base} {κ:Nat→Option KI} {hp hp':qHp} {F:Nat→Prop} {w:World} {sl:qSl} {tm:Array Value} {df:List Deferred} {n:Nat} {d:D}
theorem QaB(w:World)(b:Nat)(cs:Array Value){cur:Array Value}{ty:TypeId}(hg:w.heap[b]?=some (.cells cur ty (0,0)))(hs:cs.size=cur.size):Stp (·=b) w (w.setRow b cs):=
 ⟨rfl,rfl,rfl,by simp,fun k _ hk=>setRow_other w b k cs hk,fun k c e fr hk=>by
  by_cases h:k=b
  ·subst h
   rw[hg] at hk
   simp only[Qb,Obj.cells.injEq] at hk
   obtain⟨rfl,rfl,rfl⟩:=hk
   exact⟨cs,setRow_heap w k _ cs _ _ hg,hs⟩
  ·exact⟨c,by rw[setRow_other w b k cs h];exact hk,rfl⟩⟩
theorem QeD{t:TypeId}{m b off:Nat}(hz:Xi P t=some m){v:Value}(hm:v.cells.size=m)(h1:∀u∈v.cells.toList,u.oneCell'=true){cur:Array Value}{ty:TypeId}(hg:w.heap[b]?=some (.cells cur ty (0,0)))(hle:off+m≤cur.size):
  (Go.storeVar t ⟨b,off,none⟩ v).run P w=.ok () (w.setRow b (cur.toList.take off++v.cells.toList++cur.toList.drop (off+m)).toArray):=by
 have:=run_storeCells_at P b off ty v.cells.toList 0 cur w hg (by simp;omega) h1
 simp only[Nat.add_zero,Array.length_toList,hm] at this
 simp [Go.storeVar,ZZ hz,hm,this]
theorem Mem.set{w':World}{b:Nat}{cur:Array Value}{e:TypeId}(hg:w'.heap[b]?=some (.cells cur e (0,0))){us:List Value}(h:∀(j:Nat)(u:Value),us[j]?=some u→cur[j]?=some u):Mem w' b 0 us:=
 Mem.of_cells hg (fun j u hj=>by simpa using h j u hj)
theorem QeE(h:RH B κ hp F w)(hs:RS B κ hp w sl tm){o:Oper}{t:TypeId}{ao xo:Operand}(ho:o.op=.store t ao xo){a x:X}(ha:cX ao=some a)(hx:cX xo=some x){m:Nat}(hz:Xi P t=some m)(hm0:m≠0)
  (he:stE sl hp m a x=some (d,hp')):Res P B κ hp hp' (Fr F n) w ((execOp (Act.eval ⟨tm,df⟩) o).run P w) d:=by
 simp only[stE] at he
 cases hda:ev sl a with
 |none=>simp [hda] at he
 |some da=>
  cases hdx:ev sl x with
  |none=>cases da<;>simp [hda,hdx] at he
  |some dx=>
   have hva:=Xd (df:=df) hs ha hda
   have hvx:=Xd (df:=df) hs hx hdx
   cases da<;>simp only[hda,hdx,reduceCtorEq] at he
   case pt id off=>
    split at he
    ·rename_i cs l hl hc
     split at he
     ·rename_i hcond
      simp only[Qb,Qc] at he
      obtain⟨rfl,rfl⟩:=he
      obtain⟨b,cur,ty,hk,hob,hg,h1,hms⟩:=h.box hl
      simp only[MR,hk,Qb,KI.box.injEq] at hva
      obtain⟨b',rfl,hva⟩:=hva
      obtain⟨g1,g2⟩:=Qez hvx hc
      have hsz:(Act.eval ⟨tm,df⟩ xo).cells.size=m:=by have:=g1.length;simp at this;omega
      have hcl:=hms.length
      have hr:=QeD (P:=P) hz hsz g2 hg (off:=off) (by simp at hcl;omega)
      have hst:=QaB w b (cur.toList.take off++(Act.eval ⟨tm,df⟩ xo).cells.toList++cur.toList.drop (off+m)).toArray hg (by simp only[List.size_toArray,Qj,Qo,List.length_drop,Array.length_toList,hsz];simp at hcl;omega)
      obtain⟨k1,k2⟩:=h.change (F':=Fr F n) hob hst Fr.sub (ent:=.box (XQ cs off l)) (fun keep=>by
       simp only[ER]
       refine⟨b,_,ty,hk,setRow_heap w b cur _ ty _ hg,?_,?_⟩
       ·intro u hu
        simp only[Qd] at hu
        rcases hu with (hu|hu)|hu
        ·exact h1 u (Qw hu)
        ·exact g2 u hu
        ·exact h1 u (QM hu)
       ·have hsp:XQ cs off l=cs.take off++l++cs.drop (off+m):=by unfold XQ;rw[hcond.1]
        have hh:=MRs.append.2 ⟨_,_,rfl,MRs.append.2 ⟨_,_,rfl,((hms.take off).1).mono keep (fun _ _ h=>h),g1.mono keep (fun _ _ h=>h)⟩,((hms.take (off+m)).2).mono keep (fun _ _ h=>h)⟩
        rw[←hsp] at hh
        exact hh)
      refine⟨κ,undef,_,.inr ⟨?_,rfl⟩,k1,k2,by simp only[MR];exact QbM⟩
      simp [execOp,ho,Instr.storeAt,Instr.sureAddr,hva,hr]
     ·cases he
    ·cases he
   case pe id i off=>
    split at he
    ·rename_i sz xs hl
     split at he
     ·rename_i el d' hxe hpd
      split at he
      ·rename_i hcond
       --the new element
       have key:∀(el':D)(u':List Value)(hM:∀(I:Nat→Prop),Keep w w (Im B κ hp w) I→(∀id∈dx.ids,Rd w I κ hp id)→∀u,P1 w I el u→u.length=sz→P1 w I el' (u.take off++(Act.eval ⟨tm,df⟩ xo).cells.toList++u.drop (off+m))∧(u.take off++(Act.eval ⟨tm,df⟩ xo).cells.toList++u.drop (off+m)).length=sz),
         (Act.eval ⟨tm,df⟩ xo).cells.size=m→(∀u∈(Act.eval ⟨tm,df⟩ xo).cells.toList,u.oneCell'=true)→off+m≤sz→d=.undef→hp'=up (Q9 dx.ids hp) id (.arr sz (xs.set i el'))→lk (Q9 dx.ids hp) id=some (.arr sz xs)→
         Res P B κ hp hp' (Fr F n) w ((execOp (Act.eval ⟨tm,df⟩) o).run P w) d:=by
        intro el' u' hM hsz g2 hoff hd hhp hfz
        subst hd;subst hhp
        obtain⟨k1,k2⟩:=h.freezes dx.ids
        have hent:=k1.ent id _ hfz
        simp only[MR] at hva
        obtain⟨b,sz',tot,hk,hva⟩:=hva
        simp only[ER,hk,Qb,reduceCtorEq,false_and,false_or,KI.arr.injEq] at hent
        obtain⟨hmax,b',tot',cur,ty,us,⟨rfl,rfl,rfl⟩,hg,htot,hMem,hP⟩:=hent
        obtain⟨av,u,bv,rfl,la,lu,p1,pa,pb⟩:=hP.get hxe
        obtain⟨q1,q2⟩:=hM _ k2.keep (fun id hi=>QeB k1 hi) u p1 lu
        have hi:=(Qp.1 hxe).1
        have hMc:=Mem.cells hg hMem
        have hle:i*sz'+sz'≤cur.size:=by
         have:=Mem.le hg hMem (by simp [lu];omega)
         simp [la,lu] at this;omega
        have hr:=QeD (P:=P) hz hsz g2 hg (off:=i*sz'+off) (by omega)
        have hst:=QaB w b (cur.toList.take (i*sz'+off)++(Act.eval ⟨tm,df⟩ xo).cells.toList++cur.toList.drop (i*sz'+off+m)).toArray hg (by simp only[List.size_toArray,Qj,Qo,List.length_drop,Array.length_toList,hsz];omega)
        have hob:OB κ (Q9 dx.ids hp) w id b:=⟨_,_,hfz,rfl,hk,.inl rfl⟩
        obtain⟨j1,j2⟩:=k1.change (F':=Fr F n) hob hst Fr.sub (ent:=.arr sz' (xs.set i el')) (fun keep=>by
         simp only[ER]
         refine⟨by simpa using hmax,.inr ⟨b,tot,_,ty,av++((u.take off++(Act.eval ⟨tm,df⟩ xo).cells.toList++u.drop (off+m))++bv),hk,setRow_heap w b cur _ ty _ hg,?_,?_,?_⟩⟩
         ·simp only[List.size_toArray,Qj,Qo,List.length_drop,Array.length_toList,hsz];omega
         ·refine Mem.set (setRow_heap w b cur _ ty _ hg) (fun j uu hj=>?_)
          have e1:av++((u.take off++(Act.eval ⟨tm,df⟩ xo).cells.toList++u.drop (off+m))++bv)=(av++(u++bv)).take (i*sz'+off)++(Act.eval ⟨tm,df⟩ xo).cells.toList++(av++(u++bv)).drop (i*sz'+off+m):=by
           rw[←la]
           rw[List.take_append,List.drop_append]
           simp only[Nat.add_sub_cancel_left,List.take_append,List.drop_append]
           have e2:av.take (av.length+off)=av:=Qq (by omega)
           have e3:av.drop (av.length+off+m)=[]:=List.drop_eq_nil_of_le (by omega)
           have e4:bv.take (off-u.length)=[]:=by rw[show off-u.length=0 from by omega];rfl
           have e5:bv.drop (av.length+off+m-av.length-u.length)=bv:=by rw[show av.length+off+m-av.length-u.length=0 from by omega];rfl
           rw[e2,e3,e4,e5,show av.length+off+m-av.length=off+m from by omega]
           simp
          rw[e1] at hj
          have hlt:(av++(u++bv)).length≤cur.size:=by
           have:=Mem.le hg hMem (by simp [lu];omega);simpa using this
          have hpre:∀j,j<(av++(u++bv)).length→(av++(u++bv))[j]?=cur.toList[j]?:=fun j hj=>by
           have:=hMc j _ (Qn hj)
           rw[Qn hj]
           simpa using this.symm
          rw[show (cur.toList.take (i*sz'+off)++(Act.eval ⟨tm,df⟩ xo).cells.toList++cur.toList.drop (i*sz'+off+m)).toArray[j]?=(cur.toList.take (i*sz'+off)++(Act.eval ⟨tm,df⟩ xo).cells.toList++cur.toList.drop (i*sz'+off+m))[j]? from by simp]
          have ltot:(av++(u++bv)).length=i*sz'+(sz'+bv.length):=by simp [la,lu]
          by_cases c1:j<i*sz'+off
          ·have l1:j<((av++(u++bv)).take (i*sz'+off)).length:=by rw[Qo];omega
           have l2:j<(cur.toList.take (i*sz'+off)).length:=by rw[Qo,Array.length_toList];omega
           rw[Qx,Qz l1] at hj
           rw[Qx,Qz l2]
           rw[List.getElem?_take,if_pos c1] at hj ⊢
           rw[←hpre j (by omega)];exact hj
          ·have l1:((av++(u++bv)).take (i*sz'+off)).length=i*sz'+off:=by rw[Qo];omega
           have l2:(cur.toList.take (i*sz'+off)).length=i*sz'+off:=by rw[Qo,Array.length_toList];omega
           rw[Qx,QE (by omega),l1] at hj
           rw[Qx,QE (by omega),l2]
           by_cases c2:j-(i*sz'+off)<m
           ·rw[Qz (by simpa [hsz] using c2)] at hj ⊢
            exact hj
           ·rw[QE (by simp [hsz];omega)] at hj ⊢
            rw[List.getElem?_drop] at hj ⊢
            simp only[Array.length_toList,hsz] at hj ⊢
            rw[←hpre _ (by have:=(Qp.1 hj).1;omega)];exact hj
         ·have hP2:=PE.set (i:=i) hP hxe q1 q2
          have e1:(av++(u++bv)).take (i*sz')++((u.take off++(Act.eval ⟨tm,df⟩ xo).cells.toList++u.drop (off+m))++(av++(u++bv)).drop (i*sz'+sz'))=av++((u.take off++(Act.eval ⟨tm,df⟩ xo).cells.toList++u.drop (off+m))++bv):=by
           rw[←la,List.take_left,show av.length+sz'=(av++u).length from by simp [lu],←Qx av u bv,List.drop_left]
          rw[e1] at hP2
          exact PE.mono keep _ _ _ hP2)
        refine⟨κ,undef,_,.inr ⟨?_,rfl⟩,j1,k2.trans j2,by simp only[MR];exact QbM⟩
        simp [execOp,ho,Instr.storeAt,Instr.sureAddr,hva,hr]
       have hsz:(Act.eval ⟨tm,df⟩ xo).cells.size=m∧∀u∈(Act.eval ⟨tm,df⟩ xo).cells.toList,u.oneCell'=true:=by
        obtain⟨k1,k2⟩:=h.freezes dx.ids
        have hpc:=QcS k2.keep (fun id hi=>QeB k1 hi) hvx hpd
        have:=hpc.length
        exact⟨by simp at this;omega,hpc.one⟩
       have hnid:id∉dx.ids:=by
        have:=hcond.2.2
        simpa using this
       have hfz:lk (Q9 dx.ids hp) id=some (.arr sz xs):=by
        rw[Qbd _ _ _ _ hl,if_neg hnid]
       have hels:el.cells.length=sz:=by
        have hent:=h.ent id _ hl
        simp only[MR] at hva
        obtain⟨b,sz',tot,hk,hva⟩:=hva
        simp only[ER,hk,Qb,reduceCtorEq,false_and,false_or,KI.arr.injEq] at hent
        obtain⟨hmax,b',tot',cur,ty,us,⟨rfl,rfl,rfl⟩,hg,htot,hMem,hP⟩:=hent
        obtain⟨av,u,bv,_,_,lu,p1,_,_⟩:=hP.get hxe
        rw[←p1.cells.length,lu]
       split at he
       ·rename_i hms
        split at he
        ·rename_i hok
         simp only[Qb,Qc] at he
         refine key d' [] (fun I hk hr u p1 lu=>?_) hsz.1 hsz.2 (by omega) he.1.symm he.2.symm hfz
         have hoff:off=0:=by omega
         subst hoff
         have e1:u.take 0++(Act.eval ⟨tm,df⟩ xo).cells.toList++u.drop (0+m)=(Act.eval ⟨tm,df⟩ xo).cells.toList:=by
          rw[List.drop_eq_nil_of_le (by omega)];simp
         rw[e1]
         exact P1.of_cells hok (QcS hk hr hvx hpd)
        ·cases he
       ·split at he
        ·rename_i hok
         simp only[Qb,Qc] at he
         refine key _ [] (fun I hk hr u p1 lu=>?_) hsz.1 hsz.2 (by omega) he.1.symm he.2.symm hfz
         have hpc:=QcS hk hr hvx hpd
         have hu:=p1.cells
         have hh:PC w I (XQ el.cells off d'.cells) (u.take off++(Act.eval ⟨tm,df⟩ xo).cells.toList++u.drop (off+m)):=by
          unfold XQ
          rw[hcond.1]
          exact PC.append.2 ⟨_,_,rfl,PC.append.2 ⟨_,_,rfl,hu.take off,hpc⟩,hu.drop (off+m)⟩
         refine⟨by simp only[P1];exact hh,?_⟩
         rw[hh.length]
         simp only[Ym,Qk,Ql] at hok
         exact hok.1
        ·cases he
      ·cases he
     ·cases he
    ·cases he
end
end Go.Am
