/- The operations that read, make and write memory. -/
import Derived.Test.YtgllpjliaepbdaaGreatAmPb
import Derived.Laws.Tables
import Derived.Laws.Slices
namespace Go.Am
open Go
section
variable {P:Program} {B:Base} {κ:Nat→Option KI} {hp hp':qHp} {F:Nat→Prop} {w:World} {sl:qSl} {tm:Array Value} {df:List Deferred} {n:Nat} {d:D}
def Fr(F:Nat→Prop)(n:Nat):Nat→Prop:=fun id=>F id∧(id<n∨n+64≤id)
theorem Fr.sub(id:Nat)(h:Fr F n id):F id:=h.1
theorem Fr.ne{k:Nat}(hk:k<64)(id:Nat)(h:Fr F n id):F id∧id≠n+k:=⟨h.1,by have:=h.2;omega⟩
theorem JS{t:TypeId}{s:Nat}(h:XG P t=some s):(Go.sizeOf t).run P w=.ok s w:=by
 unfold XG at h
 cases hi:P.info? t with
 |none=>simp [hi] at h
 |some i=>simp [hi] at h;simp [Go.sizeOf,typeInfo,hi,h]
theorem Qdp{t:TypeId}{ag:Bool}(h:Jl P t=some ag):(Go.isAgg t).run P w=.ok ag w:=by
 unfold Jl at h
 cases hd:P.underlying t with
 |none=>simp [hd] at h
 |some d=>
  simp only[Go.isAgg,Sem.run_bind,run_underlying hd,Result.andThen_ok]
  cases d<;>simp [hd] at h<;>subst h<;>simp
theorem Z5(b off j:Nat):(⟨b,off,none⟩:Addr).add j=⟨b,off+j,none⟩:=by unfold Addr.add;split<;>simp_all
theorem Qni{t:TypeId}{ag:Bool}{m b off:Nat}(ha:Jl P t=some ag)(hz:XG P t=some m){us:List Value}(hm:Mem w b off us)(hl:us.length=m)(h1:ag=false→m=1):
  (Go.loadVar t ⟨b,off,none⟩).run P w=.ok (if ag then .agg us.toArray else us.headD undef) w:=by
 cases ag
 ·have hm1:=h1 rfl
  subst hm1
  obtain⟨u,rfl⟩:∃u,us=[u]:=by match us,hl with|[u],_=>exact⟨u,rfl⟩
  have:=hm 0 u rfl
  simp only[Nat.add_zero] at this
  simp [Go.loadVar,Qdp ha,this]
 ·have:=run_loadCells_list (P:=P) w ⟨b,off,none⟩ us (fun j v hj=>by rw[Z5];exact hm j v hj)
  rw[hl] at this
  simp [Go.loadVar,Qdp ha,JS hz,this]
theorem Qnj{ag:Bool}{cs:List D}(h:Jk ag cs=some d)(hf:ag=false):cs=[d]:=by
 subst hf
 match cs,h with
 |[c],h=>simp [Jk] at h;rw[h]
theorem QfP{I:Nat→Prop}{ag:Bool}{cs:List D}{us:List Value}(hm:MRs w I κ cs us)(h1:∀u∈us,u.oneCell'=true)(h:Jk ag cs=some d):
  (ag=false→us.length=1)∧MR w I κ d (if ag then .agg us.toArray else us.headD undef):=by
 cases ag
 ·have:=Qnj h rfl
  subst this
  simp only[MRs] at hm
  obtain⟨v,vs',rfl,hd,rfl⟩:=hm
  exact⟨fun _=>rfl,by simpa using hd⟩
 ·simp only[Jk,if_true,Qb] at h
  subst h
  exact⟨by simp,by simp only[MR,if_true];exact⟨_,rfl,h1,hm⟩⟩
theorem QfQ{I:Nat→Prop}{v:Value}{cs:List D}(h:MR w I κ d v)(hc:Yb d=some cs):MRs w I κ cs v.cells.toList∧∀u∈v.cells.toList,u.oneCell'=true:=by
 have one:∀v:Value,v.oneCell'=true→v.cells=#[v]:=fun v hv=>by cases v<;>simp [Value.oneCell'] at hv<;>rfl
 have key:∀v:Value,v.oneCell'=true→MR w I κ d v→MRs w I κ [d] v.cells.toList∧∀u∈v.cells.toList,u.oneCell'=true:=fun v hv hm=>by
  rw[one v hv];simp [MRs,hv,hm]
 cases d<;>simp only[Yb,Qb,reduceCtorEq] at hc<;>subst hc
 case agg cs=>
  simp only[MR] at h
  obtain⟨vs,rfl,h1,h2⟩:=h
  exact⟨h2,h1⟩
 case int=>exact key v (by simp only[MR] at h;subst h;rfl) h
 case bool=>exact key v (by simp only[MR] at h;subst h;rfl) h
 case str=>exact key v (by simp only[MR] at h;subst h;rfl) h
 case nf=>exact key v (by simp only[MR] at h;subst h;rfl) h
 case nl=>exact key v (by simp only[MR] at h;subst h;rfl) h
 case lst=>exact key v (by simp only[MR,DR] at h;rcases h.2.2 with⟨⟨_,rfl⟩,_⟩|⟨b,off,cap,us,rfl,_⟩<;>rfl) h
 case ref=>exact key v (by simp only[MR,DR] at h;obtain⟨_,b,off,us,rfl,_⟩:=h;rfl) h
 case clo=>exact key v (by have h':=h;simp only[MR] at h';obtain⟨vs,rfl,_⟩:=h';rfl) h
 case sl=>exact key v (by have h':=h;simp only[MR] at h';rcases h' with⟨_,_,rfl,_⟩|⟨_,_,_,_,_,_,rfl,_⟩<;>rfl) h
 case pt=>exact key v (by have h':=h;simp only[MR] at h';obtain⟨_,_,rfl⟩:=h';rfl) h
 case pe=>exact key v (by have h':=h;simp only[MR] at h';obtain⟨_,_,_,_,rfl⟩:=h';rfl) h
theorem Qdq{I:Nat→Prop}:∀{z:List D}{vs:List Value},QaS z vs=true→MRs w I κ z vs∧∀u∈vs,u.oneCell'=true
 |[],[],_=>by simp [MRs]
 |[],_::_,h=>by simp [QaS] at h
 |_::_,[],h=>by simp [QaS] at h
 |d::ds,v::vs,h=>by
  simp only[QaS,Qi] at h
  obtain⟨g1,g2⟩:=Qdq h.2
  have hd:MR w I κ d v∧v.oneCell'=true:=by
   have h0:=h.1
   unfold Qm9 at h0
   split at h0
   ·simp only[Qi,beq_iff_eq] at h0;obtain⟨rfl,rfl⟩:=h0;exact⟨by simp [MR],rfl⟩
   ·simp only[beq_iff_eq] at h0;subst h0;exact⟨by simp [MR],rfl⟩
   ·simp only[Qk] at h0;subst h0;exact⟨by simp [MR],rfl⟩
   ·exact⟨by simp [MR],rfl⟩
   ·exact⟨by simp [MR],rfl⟩
   ·cases h0
  simp only[MRs]
  refine⟨⟨v,vs,rfl,hd.1,g1⟩,?_⟩
  intro u hu
  rcases Qh.1 hu with rfl|hu
  ·exact hd.2
  ·exact g2 u hu
theorem QfR{t:TypeId}{z:List D}(h:zOf P t=some z):∃v,(zeroValue t).run P w=.ok v w∧(P.info? t).bind (·.zero)=some v∧QaS z v.cells.toList=true:=by
 unfold zOf at h
 split at h
 ·rename_i z' v hz hv
  split at h
  ·rename_i hm
   simp only[Qb] at h
   subst h
   refine⟨v,?_,hv,hm⟩
   cases hi:P.info? t with
   |none=>simp [hi] at hv
   |some i=>simp [hi] at hv;simp [zeroValue,typeInfo,hi,hv]
  ·cases h
 ·cases h
theorem Qnk(h:RH B κ hp F w)(hF:∀k,k<64→F (n+k)){cs:List D}{cur:Array Value}{ty:TypeId}(hm:MRs w (Im B κ hp w) κ cs cur.toList)(h1:∀u∈cur.toList,u.oneCell'=true){r:Result Next}
  (hr:r=.ok (.value (.pointer (some ⟨w.heap.size,0,none⟩))) {w with heap:=w.heap.push (.cells cur ty)}):
  Res P B κ hp (up hp n (.box cs)) (Fr F n) w r (.pt n 0):=by
 have h0:=hF 0 (by omega)
 obtain⟨g1,g2⟩:=h.new (w':={w with heap:=w.heap.push (.cells cur ty)}) (F':=Fr F n) (m:=n) (ki:=.box w.heap.size) (ent:=.box cs) rfl rfl rfl ⟨rfl,Qf _⟩ rfl h0 (Fr.ne (k:=0) (by omega)) (fun keep hg=>by
  simp only[ER]
  exact⟨_,cur,ty,XZ,hg,h1,hm.mono keep (h.kle h0 _)⟩)
 exact⟨_,_,_,.inl hr,g1,g2,by simp only[MR];exact⟨_,XZ,rfl⟩⟩
theorem QPO(h:RH B κ hp F w)(hF:∀k,k<64→F (n+k)){o:Oper}{e:TypeId}(ho:o.op=.alloc e){z:List D}(hz:zOf P e=some z){ρ:Operand→Value}:
  Res P B κ hp (up hp n (.box z)) (Fr F n) w ((execOp ρ o).run P w) (.pt n 0):=by
 obtain⟨v,hv,_,hm⟩:=QfR (w:=w) hz
 obtain⟨g1,g2⟩:=Qdq (w:=w) (I:=Im B κ hp w) (κ:=κ) hm
 refine Qnk h hF (cur:=v.cells) (ty:=e) g1 g2 ?_
 simp [execOp,ho,Instr.alloc,hv,newVar,newRow]
theorem QPP(h:RH B κ hp F w)(hs:RS B κ hp w sl tm)(hF:∀k,k<64→F (n+k)){o:Oper}{e:TypeId}{xo:Operand}(ho:o.op=.box e xo){x:X}(hx:cX xo=some x){cs:List D}(he:(ev sl x).bind Yb=some cs):
  Res P B κ hp (up hp n (.box cs)) (Fr F n) w ((execOp (Act.eval ⟨tm,df⟩) o).run P w) (.pt n 0):=by
 cases hd:ev sl x with
 |none=>simp [hd] at he
 |some d=>
  simp only[hd,Option.bind_some] at he
  obtain⟨g1,g2⟩:=QfQ (XD (df:=df) hs hx hd) he
  refine Qnk h hF (cur:=(Act.eval ⟨tm,df⟩ xo).cells) (ty:=e) g1 g2 ?_
  simp [execOp,ho,Instr.box,newVar,newRow]
theorem Qce{ag:Bool}{off m:Nat}{cs:List D}(h:Yg ag off m cs=some d):off+m≤cs.length∧Jk ag ((cs.drop off).take m)=some d:=by
 unfold Yg at h
 split at h
 ·exact⟨by assumption,h⟩
 ·cases h
theorem RH.box(h:RH B κ hp F w){id:Nat}{cs:List D}(he:lk hp id=some (.box cs)):∃b cur ty,κ id=some (.box b)∧OB κ hp w id b∧w.heap[b]?=some (.cells cur ty (0,0))∧(∀u∈cur.toList,u.oneCell'=true)∧MRs w (Im B κ hp w) κ cs cur.toList:=by
 have:=h.ent id _ he
 simp only[ER] at this
 obtain⟨b,cur,ty,h1,h2,h3,h4⟩:=this
 exact⟨b,cur,ty,h1,⟨_,_,he,rfl,h1,.inl rfl⟩,h2,h3,h4⟩
theorem Mem.sub{b off m:Nat}{us:List Value}{o:Nat}(h:Mem w b o us):Mem w b (o+off) ((us.drop off).take m):=by
 intro j u hj
 rw[List.getElem?_take] at hj
 split at hj
 ·rw[List.getElem?_drop] at hj
  have:=h _ _ hj
  rwa [←QD] at this
 ·cases hj
theorem QPQ(h:RH B κ hp F w)(hs:RS B κ hp w sl tm){o:Oper}{t:TypeId}{xo:Operand}(ho:o.op=.load t xo){x:X}(hx:cX xo=some x){ag:Bool}(ha:Jl P t=some ag){m:Nat}(hz:XG P t=some m)
  (he:eff n sl hp (.load ag m x)=some (d,hp')):Res P B κ hp hp' (Fr F n) w ((execOp (Act.eval ⟨tm,df⟩) o).run P w) d:=by
 simp only[eff] at he
 --enough:the address,and what lies there
 have key:∀(b off:Nat)(us:List Value)(cs:List D),Act.eval ⟨tm,df⟩ xo=.pointer (some ⟨b,off,none⟩)→Mem w b off us→us.length=m→MRs w (Im B κ hp w) κ cs us→(∀u∈us,u.oneCell'=true)→Jk ag cs=some d→
   Res P B κ hp hp (Fr F n) w ((execOp (Act.eval ⟨tm,df⟩) o).run P w) d:=by
  intro b off us cs hv hmem hl hms h1 hof
  obtain⟨g1,g2⟩:=QfP hms h1 hof
  refine Res.pure h Fr.sub (v:=if ag then .agg us.toArray else us.headD undef) ?_ g2
  have:=Qni (P:=P) ha hz hmem hl (fun e=>by rw[←hl];exact g1 e)
  simp [execOp,ho,Instr.loadAt,Instr.sureAddr,hv,this]
 cases hd:ev sl x with
 |none=>simp [hd] at he
 |some dx=>
  have hv:=XD (df:=df) hs hx hd
  cases dx<;>simp only[hd,reduceCtorEq] at he
  case ref cs=>
   simp only[MR,DR] at hv
   obtain⟨_,b,off,us,hv,hb,hmem,hpc⟩:=hv
   cases hc:Yg ag 0 m cs with
   |none=>simp [hc] at he
   |some d'=>
    simp only[hc,Option.map_some,Qb,Qe] at he
    obtain⟨rfl,rfl⟩:=he
    obtain⟨h1,h2⟩:=Qce hc
    simp only[Nat.zero_add,List.drop_zero] at h1 h2
    have hpc':=hpc.take m
    refine key b off (us.take m) (cs.take m) hv (by have:=Mem.sub (off:=0) (m:=m) hmem;simpa using this) (by rw[hpc'.length];simp;omega) (MRs.of_PC hpc') hpc'.one h2
  case pt id off=>
   cases hl:lk hp id with
   |none=>simp [hl] at he
   |some e=>
    cases e<;>simp only[hl,reduceCtorEq] at he
    rename_i cs
    obtain⟨b,cur,ty,hk,_,hg,h1,hms⟩:=h.box hl
    simp only[MR,hk,Qb,KI.box.injEq] at hv
    obtain⟨b',rfl,hv⟩:=hv
    cases hc:Yg ag off m cs with
    |none=>simp [hc] at he
    |some d'=>
     simp only[hc,Option.map_some,Qb,Qe] at he
     obtain⟨rfl,rfl⟩:=he
     obtain⟨g1,g2⟩:=Qce hc
     have hms':=((hms.take off).2.take m).1
     refine key _ off ((cur.toList.drop off).take m) _ hv (Mem.of_cells hg (fun j u hj=>?_)) (by rw[hms'.length];simp;omega) hms' (fun u hu=>h1 u (QN (QF hu))) g2
     rw[List.getElem?_take] at hj
     split at hj
     ·rw[List.getElem?_drop] at hj;simpa using hj
     ·cases hj
  case pe id i off=>
   have fin:∀(sz:Nat)(xs:List D)(b:Nat)(us:List Value)(hP:PE w (Im B κ hp w) sz xs us)(hM:Mem w b 0 us)(hv:Act.eval ⟨tm,df⟩ xo=.pointer (some ⟨b,i*sz+off,none⟩))(e:D)(_:xs[i]?=some e)(hc:Yg ag off m e.cells=some d)(hh:hp=hp'),
     Res P B κ hp hp' (Fr F n) w ((execOp (Act.eval ⟨tm,df⟩) o).run P w) d:=by
    intro sz xs b us hP hM hv e hxe hc hh
    subst hh
    obtain⟨a,u,z,rfl,ha,hu,h1,_,_⟩:=hP.get hxe
    have hpc:=h1.cells
    obtain⟨g1,g2⟩:=Qce hc
    have hpc':=(hpc.drop off).take m
    have hM':Mem w b (i*sz) u:=by
     have:=(Mem.append.1 (Mem.append.1 hM).2).1
     rw[ha] at this;simpa using this
    refine key b (i*sz+off) ((u.drop off).take m) _ hv (Mem.sub hM') (by rw[hpc'.length];simp;omega) (MRs.of_PC hpc') hpc'.one g2
   simp only[MR] at hv
   obtain⟨b,sz,tot,hk,hv⟩:=hv
   cases hl:lk hp id with
   |none=>simp [hl] at he
   |some e=>
    have hent:=h.ent id e hl
    cases e<;>simp only[hl,reduceCtorEq] at he
    ·rename_i sz' xs
     cases hxe:xs[i]? with
     |none=>simp [hxe] at he
     |some e=>
      cases hc:Yg ag off m e.cells with
      |none=>simp [hxe,hc] at he
      |some d'=>
       simp only[hxe,hc,Option.map_some,Qb,Qe] at he
       obtain⟨rfl,rfl⟩:=he
       simp only[ER,hk,Qb,reduceCtorEq,false_and,false_or,KI.arr.injEq] at hent
       obtain⟨_,b',tot',cur,ty,us,⟨rfl,rfl,rfl⟩,_,_,hM,hP⟩:=hent
       exact fin _ xs _ us hP hM hv e hxe hc rfl
    ·rename_i sz' xs
     cases hxe:xs[i]? with
     |none=>simp [hxe] at he
     |some e=>
      cases hc:Yg ag off m e.cells with
      |none=>simp [hxe,hc] at he
      |some d'=>
       simp only[hxe,hc,Option.map_some,Qb,Qe] at he
       obtain⟨rfl,rfl⟩:=he
       simp only[ER,hk,Qb,reduceCtorEq,false_and,false_or,KI.arr.injEq] at hent
       obtain⟨_,b',tot',us,⟨rfl,rfl,rfl⟩,_,hM,hP⟩:=hent
       exact fin _ xs _ us hP hM hv e hxe hc rfl
theorem Qnl:∀(vs:List Value)(off:Nat)(cs:List Value),off+vs.length≤cs.length→
  ((vs.zipIdx 0).foldl (fun cs (x:Value×Nat)=>cs.setIfInBounds (off+x.2) x.1) cs.toArray)=(cs.take off++(vs++cs.drop (off+vs.length))).toArray:=by
 have key:∀(vs:List Value)(k off:Nat)(cs:List Value),off+k+vs.length≤cs.length→
   ((vs.zipIdx k).foldl (fun cs (x:Value×Nat)=>cs.setIfInBounds (off+x.2) x.1) cs.toArray)=(cs.take (off+k)++(vs++cs.drop (off+k+vs.length))).toArray:=by
  intro vs
  induction vs with
  |nil=>intro k off cs h;simp
  |cons v vs ih=>
   intro k off cs h
   simp only[List.length_cons] at h
   simp only[List.zipIdx_cons,List.foldl_cons,List.setIfInBounds_toArray]
   rw[ih (k+1) off (cs.set (off+k) v) (by simp;omega)]
   congr 1
   rw[show off+(k+1)=off+k+1 from by omega,List.take_add_one]
   simp only[List.take_set,List.getElem?_set,List.drop_set]
   have h1:off+k<cs.length:=by omega
   have h2:(cs.take (off+k)).set (off+k) v=cs.take (off+k):=List.set_eq_of_length_le (by simp;omega)
   have h3:¬(off+k≥off+k+1+vs.length):=by omega
   simp [h1,h2]
   rw[if_pos (by omega)]
   rw[show off+k+1+vs.length=off+k+(vs.length+1) from by omega]
 intro vs off cs h
 have:=key vs 0 off cs (by omega)
 simpa using this
theorem QPR(hs:RS B κ hp w sl tm){t:TypeId}{places:Array (Nat×Nat)}(hpl:∀i off m ag,Qap P t i=some (off,m,ag)→places[i]?=some (off,m)):
  ∀{ps:List (Nat×Operand)}{l1:List (Nat×X)}{l2:List (Nat×Nat×X)}{z cs:List D}{vs:List Value},
  cPs ps=some l1→cFs P t l1=some l2→Zy sl l2 z=some cs→MRs w (Im B κ hp w) κ z vs→(∀u∈vs,u.oneCell'=true)→
  ∃us,Instr.fill (places[·]?) vs.toArray (ps.map fun p=>(p.1,Act.eval ⟨tm,df⟩ p.2))=some us.toArray∧MRs w (Im B κ hp w) κ cs us∧∀u∈us,u.oneCell'=true:=by
 intro ps
 induction ps with
 |nil=>
  intro l1 l2 z cs vs h1 h2 h3 hm ho
  simp only[cPs,Qb] at h1
  subst h1
  simp only[cFs,Qb] at h2
  subst h2
  simp only[Zy,Qb] at h3
  subst h3
  exact⟨vs,by simp [Instr.fill],hm,ho⟩
 |cons p ps ih=>
  obtain⟨i,xo⟩:=p
  intro l1 l2 z cs vs h1 h2 h3 hm ho
  simp only[cPs] at h1
  split at h1
  ·rename_i x l hx hl
   simp only[Qb] at h1
   subst h1
   simp only[cFs] at h2
   split at h2
   ·rename_i off m ag l' hf hl'
    simp only[Qb] at h2
    subst h2
    simp only[Zy] at h3
    split at h3
    ·rename_i q hq
     split at h3
     ·rename_i hc
      cases hd:ev sl x with
      |none=>simp [hd] at hq
      |some d=>
       simp only[hd,Option.bind_some] at hq
       obtain⟨g1,g2⟩:=QfQ (XD (df:=df) hs hx hd) hq
       have hlen:(Act.eval ⟨tm,df⟩ xo).cells.size=m:=by have:=g1.length;simp at this;omega
       have hvl:=hm.length
       have hms:MRs w (Im B κ hp w) κ (XY z off q) (vs.take off++(Act.eval ⟨tm,df⟩ xo).cells.toList++vs.drop (off+m)):=by
        unfold XY
        rw[hc.1]
        exact MRs.append.2 ⟨_,_,rfl,MRs.append.2 ⟨_,_,rfl,(hm.take off).1,g1⟩,(hm.take (off+m)).2⟩
       obtain⟨us,e1,e2,e3⟩:=ih hl hl' h3 hms (fun u hu=>by
        rcases Qg.1 hu with hu|hu
        ·rcases Qg.1 hu with hu|hu
         ·exact ho u (QF hu)
         ·exact g2 u hu
        ·exact ho u (QN hu))
       refine⟨us,?_,e2,e3⟩
       simp only[List.map_cons,Instr.fill,hpl i off m ag hf]
       have hb:¬((Act.eval ⟨tm,df⟩ xo).cells.size≠m∨off+(Act.eval ⟨tm,df⟩ xo).cells.size>vs.toArray.size):=by
        simp only[List.size_toArray];omega
       rw[if_neg (by simpa using hb)]
       rw[←e1]
       congr 1
       have:=Qnl (Act.eval ⟨tm,df⟩ xo).cells.toList off vs (by simp;omega)
       rw[←Array.foldl_toList,Array.toList_zipIdx]
       rw[this]
       simp [hlen]
     ·cases h3
    ·cases h3
   ·cases h2
  ·cases h1
theorem Qnm{α β:Type}{f:α→Option β}:∀{l:List α}{m:List β},l.mapM f=some m→∀{i:Nat}{a:α},l[i]?=some a→∃b,f a=some b∧m[i]?=some b
 |[],m,h,i,a,ha=>by simp at ha
 |x::l,m,h,i,a,ha=>by
  simp only[List.mapM_cons,Option.bind_eq_bind,Option.pure_def] at h
  cases hx:f x with
  |none=>simp [hx] at h
  |some b=>
   cases hl:l.mapM f with
   |none=>simp [hx,hl] at h
   |some m'=>
    simp [hx,hl] at h
    subst h
    cases i with
    |zero=>simp at ha;subst ha;exact⟨b,hx,rfl⟩
    |succ i=>simpa using Qnm hl (by simpa using ha)
theorem QfS{t:TypeId}{i off m:Nat}{ag:Bool}(h:Qap P t i=some (off,m,ag)):∃fs f,P.underlying t=some (.struct fs)∧fs[i]?=some f∧f.offset=off∧XG P f.type=some m∧Jl P f.type=some ag∧m≠0:=by
 unfold Qap at h
 split at h
 ·rename_i fs hfs
  split at h
  ·rename_i f hf
   split at h
   ·rename_i m' ag' h1 h2
    split at h
    ·cases h
    ·rename_i h0
     simp only[Qb,Qe] at h
     obtain⟨rfl,rfl,rfl⟩:=h
     exact⟨fs,f,hfs,hf,rfl,h1,h2,h0⟩
   ·cases h
  ·cases h
 ·cases h
theorem QPS(h:RH B κ hp F w)(hs:RS B κ hp w sl tm){o:Oper}{t:TypeId}{ps:Array (Nat×Operand)}(ho:o.op=.build t ps){fs:Array Field}(hu:P.underlying t=some (.struct fs)){pls:List (Nat×Nat)}(hpl:QfF P fs=some pls)
  {z:List D} (hz:zOf P t=some z) {l:List (Nat×Nat×X)} (hl:(cPs ps.toList).bind (cFs P t)=some l) (he:eff n sl hp (.build z l)=some (d,hp')):
  Res P B κ hp hp' (Fr F n) w ((execOp (Act.eval ⟨tm,df⟩) o).run P w) d:=by
 simp only[eff] at he
 cases hb:Zy sl l z with
 |none=>simp [hb] at he
 |some cs=>
  simp only[hb,Option.map_some,Qb,Qe] at he
  obtain⟨rfl,rfl⟩:=he
  cases hl1:cPs ps.toList with
  |none=>simp [hl1] at hl
  |some l1=>
   simp only[hl1,Option.bind_some] at hl
   obtain⟨v,_,hv,hm⟩:=QfR (w:=w) hz
   obtain⟨g1,g2⟩:=Qdq (w:=w) (I:=Im B κ hp w) (κ:=κ) hm
   obtain⟨us,e1,e2,e3⟩:=QPR (df:=df) hs (places:=pls.toArray) (fun i off m ag hf=>by
    obtain⟨fs',f,h1,h2,h3,h4,_,_⟩:=QfS hf
    rw[hu] at h1;cases h1
    obtain⟨b,hb1,hb2⟩:=Qnm hpl (show fs.toList[i]?=some f by simpa using h2)
    unfold XG at h4
    cases hi:P.info? f.type with
    |none=>simp [hi] at h4
    |some ti=>
     simp [hi] at h4 hb1
     subst hb1
     simpa [h3,h4] using hb2) hl1 hl hb g1 g2
   refine Res.pure h Fr.sub (v:=.agg us.toArray) ?_ (by simp only[MR];exact⟨_,rfl,by simpa using e3,by simpa using e2⟩)
   have hbt:P.built t (ps.map fun (i,x)=>(i,Act.eval ⟨tm,df⟩ x)).toList=some us.toArray:=by
    unfold Program.built
    cases hit:P.info? t with
    |none=>simp [hit] at hv
    |some it=>
     cases hzz:it.zero with
     |none=>simp [hit,hzz] at hv
     |some z'=>
      simp [hit,hzz] at hv
      subst hv
      unfold QfF at hpl
      simp only[hu,hzz,hpl]
      simpa using e1
   simp [execOp,ho,run_build w t _ _ hbt]
theorem QPT(h:RH B κ hp F w)(hs:RS B κ hp w sl tm){o:Oper}{t:TypeId}{xo:Operand}{i:Nat}(ho:o.op=.fieldAddr t xo i){x:X}(hx:cX xo=some x){off m:Nat}{ag:Bool}(hf:Qap P t i=some (off,m,ag))
  (he:eff n sl hp (.fad off x)=some (d,hp')):Res P B κ hp hp' (Fr F n) w ((execOp (Act.eval ⟨tm,df⟩) o).run P w) d:=by
 simp only[eff] at he
 obtain⟨fs,f,h1,h2,h3,h4,_,h5⟩:=QfS hf
 have run:∀b o',Act.eval ⟨tm,df⟩ xo=.pointer (some ⟨b,o',none⟩)→(execOp (Act.eval ⟨tm,df⟩) o).run P w=.ok (.value (.pointer (some ⟨b,o'+off,none⟩))) w:=by
  intro b o' hv
  simp [execOp,ho,Instr.fieldAt,run_underlying h1,h2,Instr.sureAddr,hv,fieldPlace,JS h4,h5,h3,Z5]
 cases hd:ev sl x with
 |none=>simp [hd] at he
 |some dx=>
  have hv:=XD (df:=df) hs hx hd
  cases dx<;>simp only[hd,reduceCtorEq] at he
  case ref cs=>
   split at he
   ·rename_i hlen
    simp only[Qb,Qe] at he
    obtain⟨rfl,rfl⟩:=he
    simp only[MR,DR] at hv
    obtain⟨_,b,o',us,hv,hb,hmem,hpc⟩:=hv
    refine Res.pure h Fr.sub (run b o' hv) ?_
    simp only[MR,DR]
    refine⟨trivial,b,o'+off,us.drop off,rfl,hb,?_,hpc.drop off⟩
    have:=Mem.sub (off:=off) (m:=us.length) hmem
    rwa [QA (by simp)] at this
   ·cases he
  case pt id o'=>
   simp only[Qb,Qe] at he
   obtain⟨rfl,rfl⟩:=he
   simp only[MR] at hv
   obtain⟨b,hk,hv⟩:=hv
   exact Res.pure h Fr.sub (run b o' hv) (by simp only[MR];exact⟨b,hk,rfl⟩)
  case pe id j o'=>
   simp only[Qb,Qe] at he
   obtain⟨rfl,rfl⟩:=he
   simp only[MR] at hv
   obtain⟨b,sz,tot,hk,hv⟩:=hv
   exact Res.pure h Fr.sub (run b _ hv) (by simp only[MR];exact⟨b,sz,tot,hk,by rw[QD]⟩)
theorem Qnn{I:Nat→Prop}{t:TypeId}{ag:Bool}{m off:Nat}(ha:Jl P t=some ag)(hz:XG P t=some m){cs:List D}{v:Value}(hv:MR w I κ (.agg cs) v)(hc:Yg ag off m cs=some d):
  ∃vs u,v=.agg vs∧(Go.part t vs off).run P w=.ok u w∧MR w I κ d u:=by
 simp only[MR] at hv
 obtain⟨vs,rfl,h1,h2⟩:=hv
 obtain⟨g1,g2⟩:=Qce hc
 have hl:=h2.length
 have hms:=((h2.take off).2.take m).1
 obtain⟨k1,k2⟩:=QfP hms (fun u hu=>h1 u (QN (QF hu))) g2
 refine⟨vs,_,rfl,?_,k2⟩
 cases ag
 ·have hm1:=k1 rfl
  have hlen:1≤m:=by
   rcases Nat.eq_zero_or_pos m with h0|h0
   ·subst h0;simp at hm1
   ·exact h0
  have hlt:off<vs.size:=by simp at hl;omega
  have:((vs.toList.drop off).take m).headD undef=vs[off]:=by
   rw[List.drop_eq_getElem_cons (by simpa using hlt)]
   obtain⟨m',rfl⟩:∃m',m=m'+1:=⟨m-1,by omega⟩
   simp
  simp only[Bool.false_eq_true,if_false,this]
  simp [Go.part,Qdp ha,hlt]
 ·simp only[Go.part,Sem.run_bind,Qdp ha,Result.andThen_ok,if_true,JS hz,Sem.run_pure]
  congr 2
  apply Array.ext'
  simp [List.extract_eq_take_drop]
theorem QPU(h:RH B κ hp F w)(hs:RS B κ hp w sl tm){o:Oper}{t:TypeId}{xo:Operand}{i:Nat}(ho:o.op=.field t xo i){x:X}(hx:cX xo=some x){off m:Nat}{ag:Bool}(hf:Qap P t i=some (off,m,ag))
  (he:eff n sl hp (.fld ag off m x)=some (d,hp')):Res P B κ hp hp' (Fr F n) w ((execOp (Act.eval ⟨tm,df⟩) o).run P w) d:=by
 simp only[eff] at he
 obtain⟨fs,f,h1,h2,h3,h4,h6,h5⟩:=QfS hf
 cases hd:ev sl x with
 |none=>simp [hd] at he
 |some dx=>
  have hv:=XD (df:=df) hs hx hd
  cases dx<;>simp only[hd,reduceCtorEq] at he
  rename_i cs
  cases hc:Yg ag off m cs with
  |none=>simp [hc] at he
  |some d'=>
   simp only[hc,Option.map_some,Qb,Qe] at he
   obtain⟨rfl,rfl⟩:=he
   obtain⟨vs,u,e1,e2,e3⟩:=Qnn h6 h4 hv hc
   refine Res.pure h Fr.sub (v:=u) ?_ e3
   simp [execOp,ho,Instr.field,run_underlying h1,h2,e1,asAgg,h3,e2]
theorem Qbp{x:D}{j:Int}(h:asI x=some j):x=.int .i64 j:=by
 unfold asI at h
 split at h
 ·simp only[Qb] at h;rw[h]
 ·cases h
theorem QPV(h:RH B κ hp F w)(hs:RS B κ hp w sl tm){o:Oper}{t:TypeId}{xo io:Operand}(ho:o.op=.index t xo io){x i:X}(hx:cX xo=some x)(hi:cX io=some i){m:Nat}{e:TypeId}(hu:P.underlying t=some (.array m e)){sz:Nat}{ag:Bool}(hz:XG P e=some sz)(ha:Jl P e=some ag)
  (he:eff n sl hp (.idx ag m sz x i)=some (d,hp')):Res P B κ hp hp' (Fr F n) w ((execOp (Act.eval ⟨tm,df⟩) o).run P w) d:=by
 simp only[eff] at he
 cases hd:ev sl x with
 |none=>simp [hd] at he
 |some dx=>
  cases hj:(ev sl i).bind asI with
  |none=>cases dx<;>simp [hd,hj] at he
  |some j=>
   have hv:=XD (df:=df) hs hx hd
   cases hdi:ev sl i with
   |none=>simp [hdi] at hj
   |some di=>
    simp only[hdi,Option.bind_some] at hj
    have hvi:=XD (df:=df) hs hi hdi
    rw[Qbp hj,MR.int] at hvi
    rw[hdi] at he
    cases dx<;>simp only[hd,hj,Option.bind_some,reduceCtorEq] at he
    rename_i cs
    split at he
    ·rename_i hb
     cases hc:Yg ag (j.toNat*sz) sz cs with
     |none=>simp [hc] at he
     |some d'=>
      simp only[hc,Option.map_some,Qb,Qe] at he
      obtain⟨rfl,rfl⟩:=he
      obtain⟨vs,u,e1,e2,e3⟩:=Qnn ha hz hv hc
      refine Res.pure h Fr.sub (v:=u) ?_ e3
      simp [execOp,ho,Instr.index,asIntOf,hvi,run_underlying hu,e1,hb,JS hz,e2]
    ·cases he
theorem RH.entSz(h:RH B κ hp F w){id sz b sz' tot:Nat}(he:Am.entSz hp id=some sz)(hk:κ id=some (.arr b sz' tot)):sz'=sz:=by
 unfold Am.entSz at he
 split at he
 ·rename_i hl
  have:=h.ent id _ hl
  simp only[Qb] at he
  subst he
  simp only[ER,hk,Qb,reduceCtorEq,false_and,false_or,KI.arr.injEq] at this
  obtain⟨_,_,_,_,_,_,⟨_,h,_⟩,_⟩:=this
  exact h
 ·rename_i hl
  have:=h.ent id _ hl
  simp only[Qb] at he
  subst he
  simp only[ER,hk,Qb,reduceCtorEq,false_and,false_or,KI.arr.injEq] at this
  obtain⟨_,_,_,_,⟨_,h,_⟩,_⟩:=this
  exact h
 ·rename_i hl
  have:=h.ent id _ hl
  simp only[Qb] at he
  subst he
  simp only[ER,hk,Qb,KI.arr.injEq] at this
  obtain⟨_,_,_,_,⟨_,h,_⟩,_⟩:=this
  exact h
 ·cases he
theorem QPW(h:RH B κ hp F w)(hs:RS B κ hp w sl tm){o:Oper}{t:TypeId}{xo io:Operand}(ho:o.op=.indexAddr t xo io){x i:X}(hx:cX xo=some x)(hi:cX io=some i){e:TypeId}(hu:P.underlying t=some (.slice e)){sz:Nat}(hz:XG P e=some sz)
  (he:eff n sl hp (.iad sz x i)=some (d,hp')):Res P B κ hp hp' (Fr F n) w ((execOp (Act.eval ⟨tm,df⟩) o).run P w) d:=by
 simp only[eff] at he
 cases hd:ev sl x with
 |none=>simp [hd] at he
 |some dx=>
  cases hj:(ev sl i).bind asI with
  |none=>cases dx<;>simp [hd,hj] at he
  |some j=>
   have hv:=XD (df:=df) hs hx hd
   cases hdi:ev sl i with
   |none=>simp [hdi] at hj
   |some di=>
    simp only[hdi,Option.bind_some] at hj
    have hvi:=XD (df:=df) hs hi hdi
    rw[Qbp hj,MR.int] at hvi
    rw[hdi] at he
    have run:∀b off len cap,Act.eval ⟨tm,df⟩ xo=.slice (some ⟨b,off,none⟩) len cap→0≤j∧j<len→(execOp (Act.eval ⟨tm,df⟩) o).run P w=.ok (.value (.pointer (some ⟨b,off+j.toNat*sz,none⟩))) w:=by
     intro b off len cap hv hj
     simp [execOp,ho,Instr.indexAt,asIntOf,hvi,run_underlying hu,hv,hj,JS hz,Z5]
    cases dx<;>simp only[hd,hj,Option.bind_some,reduceCtorEq] at he
    case lst sz' xs=>
     split at he
     ·rename_i hb
      cases hxe:xs[j.toNat]? with
      |none=>simp [hxe] at he
      |some el=>
       simp only[hxe,Qb,Qe] at he
       obtain⟨rfl,rfl⟩:=he
       have hjl:=(Qw.1 hxe).1
       simp only[MR,DR] at hv
       rcases hv.2.2 with⟨_,rfl⟩|⟨b,off,cap,us,hv,_,_,hb2,hM,hP⟩
       ·simp at hxe
       ·refine Res.pure h Fr.sub (run b off _ cap hv ⟨hb.1,by omega⟩) ?_
        obtain⟨a,u,z,rfl,ha,hu',h1,_,_⟩:=hP.get hxe
        have hM':=(Mem.append.1 (Mem.append.1 hM).2).1
        rw[ha,hb.2] at hM'
        simp only[MR,DR]
        exact⟨trivial,b,_,u,rfl,hb2,hM',h1.cells⟩
     ·cases he
    case sl id lo len=>
     split at he
     ·rename_i hb
      simp only[Qb,Qe] at he
      obtain⟨rfl,rfl⟩:=he
      simp only[MR] at hv
      rcases hv with⟨_,_,_,_,rfl⟩|⟨b,sz',tot,off,cap,hk,hv,h1,h2,h3,h4⟩
      ·omega
      ·have hsz:sz'=sz:=h.entSz hb.2.2 hk
       refine Res.pure h Fr.sub (run b off _ cap hv ⟨hb.1,hb.2.1⟩) ?_
       simp only[MR]
       refine⟨b,sz',tot,hk,?_⟩
       rw[h4 (.inl (by omega)),hsz,Nat.add_zero,Nat.add_mul]
     ·cases he
theorem QPX(h:RH B κ hp F w)(hs:RS B κ hp w sl tm){o:Oper}{t:TypeId}{xo io:Operand}(ho:o.op=.indexAddr t xo io){x i:X}(hx:cX xo=some x)(hi:cX io=some i){m:Nat}{e:TypeId}(hu:P.underlying t=some (.array m e)){sz:Nat}(hz:XG P e=some sz)
  (he:eff n sl hp (.iaa m sz x i)=some (d,hp')):Res P B κ hp hp' (Fr F n) w ((execOp (Act.eval ⟨tm,df⟩) o).run P w) d:=by
 simp only[eff] at he
 cases hd:ev sl x with
 |none=>simp [hd] at he
 |some dx=>
  cases hj:(ev sl i).bind asI with
  |none=>cases dx<;>simp [hd,hj] at he
  |some j=>
   have hv:=XD (df:=df) hs hx hd
   cases hdi:ev sl i with
   |none=>simp [hdi] at hj
   |some di=>
    simp only[hdi,Option.bind_some] at hj
    have hvi:=XD (df:=df) hs hi hdi
    rw[Qbp hj,MR.int] at hvi
    rw[hdi] at he
    have run:∀b off,Act.eval ⟨tm,df⟩ xo=.pointer (some ⟨b,off,none⟩)→0≤j∧j<m→(execOp (Act.eval ⟨tm,df⟩) o).run P w=.ok (.value (.pointer (some ⟨b,off+j.toNat*sz,none⟩))) w:=by
     intro b off hv hj
     simp [execOp,ho,Instr.indexAt,asIntOf,hvi,run_underlying hu,hv,Instr.sureAddr,hj,JS hz,Z5]
    cases dx<;>simp only[hd,hj,Option.bind_some,reduceCtorEq] at he
    case ref cs=>
     split at he
     ·rename_i hb
      simp only[Qb,Qe] at he
      obtain⟨rfl,rfl⟩:=he
      simp only[MR,DR] at hv
      obtain⟨_,b,off,us,hv,hb2,hM,hpc⟩:=hv
      refine Res.pure h Fr.sub (run b off hv ⟨hb.1,hb.2.1⟩) ?_
      simp only[MR,DR]
      refine⟨trivial,b,_,us.drop (j.toNat*sz),rfl,hb2,?_,hpc.drop _⟩
      have:=Mem.sub (off:=j.toNat*sz) (m:=us.length) hM
      rwa [QA (by simp)] at this
     ·cases he
    case pt id off=>
     split at he
     ·rename_i hb
      simp only[Qb,Qe] at he
      obtain⟨rfl,rfl⟩:=he
      simp only[MR] at hv
      obtain⟨b,hk,hv⟩:=hv
      exact Res.pure h Fr.sub (run b off hv hb) (by simp only[MR];exact⟨b,hk,rfl⟩)
     ·cases he
theorem QPY(h:RH B κ hp F w)(hs:RS B κ hp w sl tm){o:Oper}{c:Call}(ho:o.op=.call c)(hc:c.callee=.builtin .len){t:TypeId}(ht:c.argTypes.toList=[t]){xo:Operand}(ha:c.args.toList=[xo]){x:X}(hx:cX xo=some x){e:TypeId}(hu:P.underlying t=some (.slice e))
  (he:eff n sl hp (.len x)=some (d,hp')):Res P B κ hp hp' (Fr F n) w ((execOp (Act.eval ⟨tm,df⟩) o).run P w) d:=by
 simp only[eff] at he
 have ht':c.argTypes=#[t]:=by apply Array.ext';simpa using ht
 have ha':c.args=#[xo]:=by apply Array.ext';simpa using ha
 have run:∀a len cap,Act.eval ⟨tm,df⟩ xo=.slice a len cap→(execOp (Act.eval ⟨tm,df⟩) o).run P w=.ok (.value (.int .i64 len)) w:=by
  intro a len cap hv
  simp [execOp,ho,resolve,hc,ha',ht',invoke,builtin,Builtin.len_,run_underlying hu,hv,goInt]
 cases hd:ev sl x with
 |none=>simp [hd] at he
 |some dx=>
  have hv:=XD (df:=df) hs hx hd
  cases dx<;>simp only[hd,Qb,Qe,reduceCtorEq] at he
  all_goals obtain⟨rfl,rfl⟩:=he
  case nl=>simp only[MR] at hv;exact Res.pure h Fr.sub (run _ _ _ hv) (by simp [MR])
  case lst=>
   simp only[MR,DR] at hv
   rcases hv.2.2 with⟨⟨_,hv2⟩,rfl⟩|⟨b,off,cap,us,hv2,_⟩
   ·exact Res.pure h Fr.sub (run _ _ _ hv2) (by simp [MR])
   ·exact Res.pure h Fr.sub (run _ _ _ hv2) (by simp [MR])
  case sl=>
   simp only[MR] at hv
   rcases hv with⟨_,_,hv,_,rfl⟩|⟨b,sz',tot,off,cap,hk,hv,_⟩
   ·exact Res.pure h Fr.sub (run _ _ _ hv) (by simp [MR])
   ·exact Res.pure h Fr.sub (run _ _ _ hv) (by simp [MR])
theorem Qbq(hs:RS B κ hp w sl tm):∀{xo:List Operand}{xs:List X}{ds:List D},Q1 cX xo=some xs→Q1 (ev sl) xs=some ds→MRs w (Im B κ hp w) κ ds (xo.map (Act.eval ⟨tm,df⟩))
 |[],xs,ds,h1,h2=>by
  simp only[Q1,Qb] at h1
  subst h1
  simp only[Q1,Qb] at h2
  subst h2
  simp [MRs]
 |a::l,xs,ds,h1,h2=>by
  simp only[Q1] at h1
  split at h1
  ·rename_i b m hb hm
   simp only[Qb] at h1
   subst h1
   simp only[Q1] at h2
   split at h2
   ·rename_i d ds' hd hds
    simp only[Qb] at h2
    subst h2
    simp only[List.map_cons,MRs]
    exact⟨_,_,rfl,XD hs hb hd,Qbq hs hm hds⟩
   ·cases h2
  ·cases h1
theorem Qno{I:Nat→Prop}:∀{l:List D}{vs:List Value}{a:D}{va:Value},MR w I κ a va→MRs w I κ l vs→YW Qbj a l=some d→∃v,(vs.foldlM Builtin.min2 va).run P w=.ok v w∧MR w I κ d v
 |[],vs,a,va,ha,hl,h=>by
  simp only[MRs] at hl
  subst hl
  simp only[YW,Qb] at h
  subst h
  exact⟨va,by simp,ha⟩
 |b::l,vs,a,va,ha,hl,h=>by
  simp only[MRs] at hl
  obtain⟨vb,vs',rfl,hb,hl⟩:=hl
  simp only[YW] at h
  split at h
  ·rename_i c hc
   unfold Qbj at hc
   split at hc
   ·rename_i k x k' y
    split at hc
    ·rename_i hk
     subst hk
     simp only[Qb] at hc
     subst hc
     simp only[MR.int] at ha hb
     subst ha;subst hb
     obtain⟨v,h1,h2⟩:=Qno (a:=.int k (if y<x then y else x)) (va:=.int k (if y<x then y else x)) (by simp [MR]) hl h
     exact⟨v,by simpa [List.foldlM_cons,Builtin.min2] using h1,h2⟩
    ·cases hc
   ·cases hc
  ·cases h
theorem Qnp{I:Nat→Prop}:∀{l:List D}{vs:List Value}{a:D}{va:Value},MR w I κ a va→MRs w I κ l vs→YW Qbk a l=some d→∃v,(vs.foldlM Builtin.max2 va).run P w=.ok v w∧MR w I κ d v
 |[],vs,a,va,ha,hl,h=>by
  simp only[MRs] at hl
  subst hl
  simp only[YW,Qb] at h
  subst h
  exact⟨va,by simp,ha⟩
 |b::l,vs,a,va,ha,hl,h=>by
  simp only[MRs] at hl
  obtain⟨vb,vs',rfl,hb,hl⟩:=hl
  simp only[YW] at h
  split at h
  ·rename_i c hc
   unfold Qbk at hc
   split at hc
   ·rename_i k x k' y
    split at hc
    ·rename_i hk
     subst hk
     simp only[Qb] at hc
     subst hc
     simp only[MR.int] at ha hb
     subst ha;subst hb
     obtain⟨v,h1,h2⟩:=Qnp (a:=.int k (if x<y then y else x)) (va:=.int k (if x<y then y else x)) (by simp [MR]) hl h
     exact⟨v,by simpa [List.foldlM_cons,Builtin.max2] using h1,h2⟩
    ·cases hc
   ·cases hc
  ·cases h
theorem QPZ(h:RH B κ hp F w)(hs:RS B κ hp w sl tm){o:Oper}{c:Call}(ho:o.op=.call c)(hc:c.callee=.builtin .min){xs:List X}(hx:Q1 cX c.args.toList=some xs)
  (he:eff n sl hp (.mn xs)=some (d,hp')):Res P B κ hp hp' (Fr F n) w ((execOp (Act.eval ⟨tm,df⟩) o).run P w) d:=by
 simp only[eff] at he
 cases hds:Q1 (ev sl) xs with
 |none=>simp [hds] at he
 |some ds=>
  have hms:=Qbq (df:=df) hs hx hds
  cases ds with
  |nil=>simp [hds] at he
  |cons a l=>
   cases hf:YW Qbj a l with
   |none=>simp [hds,hf] at he
   |some d'=>
    simp only[hds,hf,Option.map_some,Qb,Qe] at he
    obtain⟨rfl,rfl⟩:=he
    simp only[MRs] at hms
    obtain⟨va,vs,hvs,ha,hl⟩:=hms
    obtain⟨v,h1,h2⟩:=Qno (P:=P) ha hl hf
    refine Res.pure h Fr.sub (v:=v) ?_ h2
    simp [execOp,ho,resolve,hc,invoke,builtin,Builtin.min_,hvs,h1]
theorem QP0(h:RH B κ hp F w)(hs:RS B κ hp w sl tm){o:Oper}{c:Call}(ho:o.op=.call c)(hc:c.callee=.builtin .max){xs:List X}(hx:Q1 cX c.args.toList=some xs)
  (he:eff n sl hp (.mx xs)=some (d,hp')):Res P B κ hp hp' (Fr F n) w ((execOp (Act.eval ⟨tm,df⟩) o).run P w) d:=by
 simp only[eff] at he
 cases hds:Q1 (ev sl) xs with
 |none=>simp [hds] at he
 |some ds=>
  have hms:=Qbq (df:=df) hs hx hds
  cases ds with
  |nil=>simp [hds] at he
  |cons a l=>
   cases hf:YW Qbk a l with
   |none=>simp [hds,hf] at he
   |some d'=>
    simp only[hds,hf,Option.map_some,Qb,Qe] at he
    obtain⟨rfl,rfl⟩:=he
    simp only[MRs] at hms
    obtain⟨va,vs,hvs,ha,hl⟩:=hms
    obtain⟨v,h1,h2⟩:=Qnp (P:=P) ha hl hf
    refine Res.pure h Fr.sub (v:=v) ?_ h2
    simp [execOp,ho,resolve,hc,invoke,builtin,Builtin.max_,hvs,h1]
theorem QP1(h:RH B κ hp F w)(hs:RS B κ hp w sl tm){o:Oper}{xo:Operand}{i:Nat}(ho:o.op=.extract xo i){x:X}(hx:cX xo=some x)
  (he:eff n sl hp (.ext x i)=some (d,hp')):Res P B κ hp hp' (Fr F n) w ((execOp (Act.eval ⟨tm,df⟩) o).run P w) d:=by
 simp only[eff] at he
 cases hd:ev sl x with
 |none=>simp [hd] at he
 |some dx=>
  have hv:=XD (df:=df) hs hx hd
  cases dx<;>simp only[hd,reduceCtorEq] at he
  rename_i ds
  cases hi:ds[i]? with
  |none=>simp [hi] at he
  |some d'=>
   simp only[hi,Qb,Qe] at he
   obtain⟨rfl,rfl⟩:=he
   simp only[MR] at hv
   obtain⟨vs,hv,hms⟩:=hv
   obtain⟨v,h1,h2⟩:=hms.get hi
   have h1':vs[i]?=some v:=by simpa using h1
   refine Res.pure h Fr.sub (v:=v) ?_ h2
   simp [execOp,ho,Instr.extract,hv,h1']
theorem QP2(h:RH B κ hp F w)(hs:RS B κ hp w sl tm){o:Oper}{f:Nat}{first caps:Array Operand}(ho:o.op=.makeFunc (.func f) first caps)(hf:first.isEmpty=true){xs:List X}(hx:Q1 cX caps.toList=some xs)
  (he:eff n sl hp (.mkf f xs)=some (d,hp')):Res P B κ hp hp' (Fr F n) w ((execOp (Act.eval ⟨tm,df⟩) o).run P w) d:=by
 simp only[eff] at he
 cases hds:Q1 (ev sl) xs with
 |none=>simp [hds] at he
 |some ds=>
  simp only[hds,Option.map_some,Qb,Qe] at he
  obtain⟨rfl,rfl⟩:=he
  have hms:=Qbq (df:=df) hs hx hds
  have hf':first=#[]:=by simpa using hf
  refine Res.pure h Fr.sub (v:=.func (.func f) #[] (caps.map (Act.eval ⟨tm,df⟩))) ?_ (by simp only[MR];exact⟨_,rfl,by simpa using hms⟩)
  simp [execOp,ho,Instr.makeFunc,hf']
def Rd(w:World)(I:Nat→Prop)(κ:Nat→Option KI)(hp:qHp)(id:Nat):Prop:=
 ∀sz xs,lk hp id=some (.arr sz xs)∨lk hp id=some (.imm sz xs)→xs.length≤QW∧((κ id=some (.nil sz)∧xs=[])∨∃b tot us,κ id=some (.arr b sz tot)∧I b∧Mem w b 0 us∧PE w I sz xs us)
theorem Qnq{I I0:Nat→Prop}{id lo len sz:Nat}{xs:List D}{v:Value}(hx:xs.length≤QW)(hr:(κ id=some (.nil sz)∧xs=[])∨∃b tot us,κ id=some (.arr b sz tot)∧I b∧Mem w b 0 us∧PE w I sz xs us)
  (hv:MR w I0 κ (.sl id lo len) v) (hl:lo+len≤xs.length):DR w I (.lst sz ((xs.drop lo).take len)) v []:=by
 have hlen:((xs.drop lo).take len).length=len:=by simp;omega
 simp only[MR] at hv
 simp only[DR,hlen]
 refine⟨trivial,by omega,?_⟩
 rcases hr with⟨h1,rfl⟩|⟨b,tot,us,h1,hb,hM,hP⟩
 ·rw[h1] at hv
  rcases hv with⟨_,_,hv,rfl,rfl⟩|⟨_,_,_,_,_,hv,_⟩
  ·exact .inl ⟨⟨_,hv⟩,by simp⟩
  ·cases hv
 ·rw[h1] at hv
  rcases hv with⟨_,hv,_⟩|⟨b',sz',tot',off,cap,hv,rfl,h2,h3,h4,h5⟩
  ·cases hv
  ·simp only[Qb,KI.arr.injEq] at hv
   obtain⟨rfl,rfl,rfl⟩:=hv
   right
   by_cases h0:0<len∨lo=0
   ·have hoff:=h5 h0
    obtain⟨u1,u2,rfl,p1,p2⟩:=hP.take lo
    obtain⟨u3,u4,rfl,p3,p4⟩:=p2.take len
    have hm3:=(Mem.append.1 (Mem.append.1 hM).2).1
    have hl1:=p1.length
    rw[Qj,Nat.min_eq_left (by omega)] at hl1
    rw[hl1,Nat.zero_add,←hoff] at hm3
    exact⟨b,off,cap,u3,rfl,h2,h3,hb,hm3,p3⟩
   ·have:len=0:=by omega
    subst this
    exact⟨b,off,cap,[],rfl,h2,h3,hb,Mem.nil,by simp [PE]⟩
theorem JC{I I0:Nat→Prop}(hk:Keep w w I0 I){e:D}{v:Value}(hr:∀id∈d.ids0,Rd w I κ hp id)(hv:MR w I0 κ d v)(h:Xa hp d=some e):DR w I e v []:=by
 cases d<;>simp only[Xa,reduceCtorEq,Qb] at h
 case int=>subst h;simpa [MR,DR] using hv
 case bool=>subst h;simpa [MR,DR] using hv
 case str=>subst h;simpa [MR,DR] using hv
 case nf=>subst h;simpa [MR,DR] using hv
 case nl=>
  simp only[MR] at hv
  split at h<;>cases h<;>simp [DR,hv,QW]
 case lst=>subst h;simp only[MR] at hv;exact hv.mono hk _ _ _ (by simp)
 case sl id lo len=>
  have key:∀sz xs,lk hp id=some (.arr sz xs)∨lk hp id=some (.imm sz xs)→(if lo=0∧len=xs.length then some (.lst sz xs) else if lo+len≤xs.length then some (D.lst sz ((xs.drop lo).take len)) else none)=some e→DR w I e v []:=by
   intro sz xs hl h
   obtain⟨h1,h2⟩:=hr id (by simp [D.ids0]) sz xs hl
   split at h
   ·rename_i hc
    simp only[Qb] at h
    subst h
    have:=Qnq h1 h2 hv (by omega)
    rw[hc.1,hc.2] at this
    simpa using this
   ·split at h
    ·simp only[Qb] at h
     subst h
     exact Qnq h1 h2 hv (by assumption)
    ·cases h
  split at h
  ·rename_i hl;exact key _ _ (.inl hl) h
  ·rename_i hl;exact key _ _ (.inr hl) h
  ·cases h
theorem Qbr{I I0:Nat→Prop}(hk:Keep w w I0 I):∀{cs es:List D}{vs:List Value},(∀c∈cs,∀id∈c.ids0,Rd w I κ hp id)→MRs w I0 κ cs vs→(∀u∈vs,u.oneCell'=true)→Q1 (Xa hp) cs=some es→PC w I es vs
 |[],es,vs,_,hm,_,h=>by
  simp only[Q1,Qb] at h
  subst h
  simpa [MRs,PC] using hm
 |c::cs,es,vs,hr,hm,ho,h=>by
  simp only[Q1] at h
  split at h
  ·rename_i e es' he hes
   simp only[Qb] at h
   subst h
   simp only[MRs] at hm
   obtain⟨v,vs',rfl,hv,hm⟩:=hm
   simp only[PC]
   exact⟨v,vs',rfl,ho v (by simp),JC hk (fun id hi=>hr c (by simp) id hi) hv he,Qbr hk (fun c hc=>hr c (by simp [hc])) hm (fun u hu=>ho u (by simp [hu])) hes⟩
  ·cases h
theorem Qdr{I I0:Nat→Prop}(hk:Keep w w I0 I){e:D}{v:Value}(hr:∀id∈d.ids,Rd w I κ hp id)(hv:MR w I0 κ d v)(h:pur hp d=some e):PC w I e.cells v.cells.toList:=by
 have one:∀e:D,DR w I e v []→v.oneCell'=true→e.cells=[e]→PC w I e.cells v.cells.toList:=fun e hd h1 hc=>by
  rw[hc,show v.cells=#[v] from by cases v<;>simp [Value.oneCell'] at h1<;>rfl]
  simp only[PC]
  exact⟨v,[],rfl,h1,hd,rfl⟩
 have hlst:∀sz xs,DR w I (.lst sz xs) v []→v.oneCell'=true:=fun sz xs hd=>by
  simp only[DR] at hd
  rcases hd.2.2 with⟨⟨_,rfl⟩,_⟩|⟨b,off,cap,us,rfl,_⟩<;>rfl
 cases d<;>simp only[pur] at h
 case agg cs=>
  cases hc:Q1 (Xa hp) cs with
  |none=>simp [hc] at h
  |some l=>
   simp only[hc,Option.map_some,Qb] at h
   subst h
   simp only[MR] at hv
   obtain⟨vs,rfl,h1,h2⟩:=hv
   exact Qbr hk (fun c hc id hi=>hr id (by simp only[D.ids,Qp];exact⟨c,hc,hi⟩)) h2 h1 hc
 case int k m=>
  have hd:=JC hk (fun id hi=>hr id (by simpa [D.ids] using hi)) hv h
  simp only[Xa,Qb] at h
  subst h
  exact one _ hd (by simp only[DR] at hd;rw[hd.1];rfl) rfl
 case bool b=>
  have hd:=JC hk (fun id hi=>hr id (by simpa [D.ids] using hi)) hv h
  simp only[Xa,Qb] at h
  subst h
  exact one _ hd (by simp only[DR] at hd;rw[hd.1];rfl) rfl
 case str b=>
  have hd:=JC hk (fun id hi=>hr id (by simpa [D.ids] using hi)) hv h
  simp only[Xa,Qb] at h
  subst h
  exact one _ hd (by simp only[DR] at hd;rw[hd.1];rfl) rfl
 case nf=>
  have hd:=JC hk (fun id hi=>hr id (by simpa [D.ids] using hi)) hv h
  simp only[Xa,Qb] at h
  subst h
  exact one _ hd (by simp only[DR] at hd;rw[hd.1];rfl) rfl
 case nl b=>
  have hd:=JC hk (fun id hi=>hr id (by simpa [D.ids] using hi)) hv h
  simp only[MR] at hv
  simp only[Xa] at h
  split at h<;>cases h<;>exact one _ hd (by rw[hv];rfl) rfl
 case lst b=>
  have hd:=JC hk (fun id hi=>hr id (by simpa [D.ids] using hi)) hv h
  simp only[Xa,Qb] at h
  subst h
  exact one _ hd (hlst _ _ hd) rfl
 case sl id lo len=>
  have hd:=JC hk (fun id hi=>hr id (by simpa [D.ids] using hi)) hv h
  have he:∃sz xs,e=.lst sz xs:=by
   simp only[Xa] at h
   split at h<;>(try cases h)
   all_goals
    split at h
    ·simp only[Qb] at h;exact⟨_,_,h.symm⟩
    ·split at h
     ·simp only[Qb] at h;exact⟨_,_,h.symm⟩
     ·cases h
  obtain⟨sz,xs,rfl⟩:=he
  exact one _ hd (hlst _ _ hd) rfl
 all_goals simp [Xa] at h
theorem Qbs(l:List Nat):∀(hp:qHp)(id:Nat)(e:Ent),lk hp id=some e→lk (Xd l hp) id=some (if id∈l then e.frozen else e):=by
 induction l with
 |nil=>intro hp id e h;simpa [Xd] using h
 |cons i l ih=>
  intro hp id e h
  have ff:e.frozen.frozen=e.frozen:=by cases e<;>rfl
  simp only[Xd]
  cases hi:lk hp i with
  |none=>
   simp only[]
   rw[ih hp id e h]
   have:id≠i:=fun e=>by rw[e,hi] at h;cases h
   simp [this]
  |some e'=>
   simp only[]
   by_cases hii:id=i
   ·subst hii
    rw[h] at hi
    cases hi
    rw[ih _ id e.frozen (by rw[Yw];simp)]
    simp [ff]
   ·rw[ih _ id e (by rw[Yw,if_neg hii];exact h)]
    simp [hii]
theorem QfT{l:List Nat}(h:RH B κ (Xd l hp) F w){id:Nat}(hi:id∈l):Rd w (Im B κ (Xd l hp) w) κ hp id:=by
 intro sz xs hl
 have:lk (Xd l hp) id=some (.imm sz xs):=by
  rcases hl with hl|hl<;>rw[Qbs l hp id _ hl]<;>simp [hi,Ent.frozen]
 have:=h.ent id _ this
 simpa only[ER] using this
theorem Qnr{α:Type}(l:List α):∀(m i:Nat),i<m*l.length→(List.replicate m l).flatten[i]?=l[i%l.length]?
 |0,i,h=>by simp at h
 |m+1,i,h=>by
  simp only[List.replicate_succ,List.flatten_cons]
  by_cases hi:i<l.length
  ·rw[Qy hi,Nat.mod_eq_of_lt hi]
  ·rw[QH (by omega),Qnr l m _ (by rw[Nat.succ_mul] at h;omega)]
   congr 1
   rw[←Nat.mod_eq_sub_mod (by omega)]
theorem Qds(z:Array Value)(m:Nat):(madeCells z (m*z.size)).toList=(List.replicate m z.toList).flatten:=by
 apply List.ext_getElem?
 intro i
 by_cases hi:i<m*z.size
 ·rw[Qnr _ _ _ (by simpa using hi)]
  have h0:0<z.size:=by
   rcases Nat.eq_zero_or_pos z.size with h|h
   ·rw[h] at hi;simp at hi
   ·exact h
  have hm:i%z.size<z.size:=Nat.mod_lt _ h0
  simp [madeCells,hi,hm]
 ·have h1:(madeCells z (m*z.size)).toList.length≤i:=by simp [madeCells];omega
  have h2:(List.replicate m z.toList).flatten.length≤i:=by simp;omega
  rw[List.getElem?_eq_none h1,List.getElem?_eq_none h2]
theorem Qdt{I:Nat→Prop}{t:TypeId}{z:D}{s:Nat}(h:JO P t=some z)(ho:XT s z=true):∃v,(zeroValue t).run P w=.ok v w∧(P.info? t).bind (·.zero)=some v∧P1 w I z v.cells.toList∧v.cells.toList.length=s:=by
 unfold JO at h
 split at h
 ·rename_i zz ag hz ha
  split at h
  ·rename_i l hl
   obtain⟨v,hv,hv2,hm⟩:=QfR (w:=w) hz
   obtain⟨g1,g2⟩:=Qdq (w:=w) (I:=I) (κ:=fun _=>none) hm
   refine⟨v,hv,hv2,?_⟩
   have hpc:PC w I l v.cells.toList:=Qbr (κ:=fun _=>none) (hp:=[]) (I0:=I) ⟨fun _ h=>h,fun _ _=>rfl⟩ (fun c _ id _ sz xs hl=>by simp [lk] at hl) g1 g2 hl
   have hcells:z.cells=l:=by
    cases ag
    ·have:=Qnj h rfl
     subst this
     cases z<;>simp [XT] at ho<;>try rfl
     exfalso
     simp only[PC,DR] at hpc
     obtain⟨u,us',_,h1,⟨vs,rfl,_⟩,_⟩:=hpc
     simp [Value.oneCell'] at h1
    ·simp only[Jk,if_true,Qb] at h
     subst h;rfl
   rw[←hcells] at hpc
   exact P1.of_cells ho hpc
  ·cases h
 ·cases h
theorem QP3{I:Nat→Prop}(hk:Keep w w (Im B κ hp w) I)(hs:RS B κ hp w sl tm){sz:Nat}:∀{ps:List (Nat×Operand)}{l:List (Nat×X)}{es es':List D}{f:List Nat}{us:List Value},
  cPs ps=some l→Yh sl hp sz l es=some (es',f)→(∀id∈f,Rd w I κ hp id)→PE w I sz es us→
  ∃us',Instr.fill (fun i=>some (i*sz,sz)) us.toArray (ps.map fun p=>(p.1,Act.eval ⟨tm,df⟩ p.2))=some us'.toArray∧PE w I sz es' us':=by
 intro ps
 induction ps with
 |nil=>
  intro l es es' f us h1 h2 _ hP
  simp only[cPs,Qb] at h1
  subst h1
  simp only[Yh,Qb,Qe] at h2
  obtain⟨rfl,rfl⟩:=h2
  exact⟨us,by simp [Instr.fill],hP⟩
 |cons p ps ih=>
  obtain⟨i,xo⟩:=p
  intro l es es' f us h1 h2 hr hP
  simp only[cPs] at h1
  split at h1
  ·rename_i x l' hx hl
   simp only[Qb] at h1
   subst h1
   simp only[Yh] at h2
   split at h2
   ·rename_i d hd
    split at h2
    ·rename_i e he
     split at h2
     ·rename_i hc
      cases hb:Yh sl hp sz l' (es.set i e) with
      |none=>simp [hb] at h2
      |some q=>
       obtain⟨q1,q2⟩:=q
       simp only[hb,Option.map_some,Qb,Qe] at h2
       obtain⟨rfl,rfl⟩:=h2
       have hpc:=Qdr hk (fun id hi=>hr id (by simp [hi])) (XD (df:=df) hs hx hd) he
       obtain⟨g1,g2⟩:=P1.of_cells hc.1 hpc
       have hei:es[i]?=some es[i]:=Qq hc.2
       have hP':=hP.set hei g1 g2
       obtain⟨us',e1,e2⟩:=ih hl hb (fun id hi=>hr id (by simp [hi])) hP'
       refine⟨us',?_,e2⟩
       have hul:=hP.length
       have hle:i*sz+sz≤us.length:=by
        rw[hul,←Nat.succ_mul];exact Nat.mul_le_mul_right _ hc.2
       simp only[List.map_cons,Instr.fill]
       have hb:¬((Act.eval ⟨tm,df⟩ xo).cells.size≠sz∨i*sz+(Act.eval ⟨tm,df⟩ xo).cells.size>us.toArray.size):=by
        simp only[List.size_toArray];simp at g2;omega
       rw[if_neg (by simpa using hb)]
       rw[←e1]
       congr 1
       have:=Qnl (Act.eval ⟨tm,df⟩ xo).cells.toList (i*sz) us (by rw[g2];exact hle)
       rw[←Array.foldl_toList,Array.toList_zipIdx]
       rw[this,g2]
     ·cases h2
    ·cases h2
   ·cases h2
  ·cases h1
theorem Qns{sz:Nat}:∀{l:List (Nat×X)}{es es':List D}{f:List Nat},Yh sl hp sz l es=some (es',f)→es'.length=es.length
 |[],es,es',f,h=>by simp only[Yh,Qb,Qe] at h;rw[h.1]
 |(i,x)::l,es,es',f,h=>by
  simp only[Yh] at h
  split at h
  ·split at h
   ·rename_i e _
    split at h
    ·cases hq:Yh sl hp sz l (es.set i e) with
     |none=>simp [hq] at h
     |some q=>
      simp only[hq,Option.map_some,Qb,Qe] at h
      rw[←h.1,Qns hq];simp
    ·cases h
   ·cases h
  ·cases h
theorem Qcf{m by_:Nat}(h:YY m by_=true):m*by_≤140737488355328∧m≤QW:=by
 simpa [YY] using h
theorem Qdu{hp1:qHp}(h:RH B κ hp1 F w)(hF:∀k,k<64→F (n+k)){sz m cap:Nat}{es:List D}{cur:Array Value}{ty:TypeId}{w':World}
  (hw:w'.heap=w.heap.push (.cells cur ty)) (h1:w'.os=w.os) (h2:w'.tape=w.tape) (h3:w'.output=w.output∧w.drawn≤w'.drawn)
  {us:List Value} (hu:∀(j:Nat)(u:Value),us[j]?=some u→cur[j]?=some u) (hP:PE w (Im B κ hp1 w) sz es us) (hm:m=es.length) (hml:m≤QW) (hmc:m≤cap) (hcl:cap≤maxLen) (hcs:cap*sz≤cur.size) {r:Result Next}
  (hr:r=.ok (.value (.slice (some ⟨w.heap.size,0,none⟩) m cap)) w') (hx:Nxt B κ κ hp hp1 w w):
  Res P B κ hp (up hp1 n (.arr sz es)) (Fr F n) w r (.sl n 0 m):=by
 have h0:=hF 0 (by omega)
 obtain⟨g1,g2⟩:=h.new (w':=w') (F':=Fr F n) (m:=n) (ki:=.arr w.heap.size sz cur.size) (ent:=.arr sz es) hw h1 h2 h3 rfl h0 (Fr.ne (k:=0) (by omega)) (fun keep hg=>by
  simp only[ER]
  refine⟨by omega,.inr ⟨_,_,cur,ty,us,XZ,hg,Qf _,Mem.of_cells hg (fun j u hj=>by simpa using hu j u hj),PE.mono keep _ _ _ hP⟩⟩)
 exact⟨_,_,_,.inl hr,g1,hx.trans g2,by simp only[MR];exact .inr ⟨_,_,_,0,cap,XZ,rfl,hmc,hcl,by omega,fun _=>by omega⟩⟩
theorem QP4(h:RH B κ hp F w)(hs:RS B κ hp w sl tm)(hF:∀k,k<64→F (n+k)){o:Oper}{t e:TypeId}{m:Nat}{ps:Array (Nat×Operand)}(ho:o.op=.buildSlice t m ps)(hu:P.underlying t=some (.slice e)){s by_:Nat}(hz:XG P e=some s)(hs0:s≠0)(hsm:m*s≤65536)
  {z:D} (hze:JO P e=some z) (hoe:XT s z=true) {l:List (Nat×X)} (hl:cPs ps.toList=some l) (he:eff n sl hp (.buildSl s by_ z m l)=some (d,hp')):
  Res P B κ hp hp' (Fr F n) w ((execOp (Act.eval ⟨tm,df⟩) o).run P w) d:=by
 simp only[eff] at he
 split at he
 ·rename_i hfit
  obtain⟨f1,f2⟩:=Qcf hfit
  cases hb:Yh sl hp s l (List.replicate m z) with
  |none=>simp [hb] at he
  |some q=>
   obtain⟨es,f⟩:=q
   simp only[hb,Option.map_some,Qb,Qe] at he
   obtain⟨rfl,rfl⟩:=he
   obtain⟨k1,k2⟩:=h.freezes f
   obtain⟨v,hv,hv2,g1,g2⟩:=Qdt (w:=w) (I:=Im B κ (Xd f hp) w) hze hoe
   have hP0:PE w (Im B κ (Xd f hp) w) s (List.replicate m z) (List.replicate m v.cells.toList).flatten:=PE.replicate g1 g2 m
   obtain⟨us,e1,e2⟩:=QP3 (df:=df) k2.keep hs hl hb (fun id hi=>QfT k1 hi) hP0
   have hesl:es.length=m:=by
    rw[Qns hb];simp
   have hus:us.length=m*s:=by rw[e2.length,hesl]
   refine Qdu k1 hF (cur:=us.toArray) (ty:=e) (w':={w with heap:=w.heap.push (.cells us.toArray e)}) (cap:=m) (us:=us) rfl rfl rfl ⟨rfl,Qf _⟩ (fun j u hj=>by simpa using hj) e2 hesl.symm f2 (Qf _) (by simp only[QW] at f2;simp only[maxLen];omega) (by simp [hus]) ?_ k2
   have hsz:v.cells.size=s:=by simpa using g2
   have hcells:(madeCells v.cells (m*s))=((List.replicate m v.cells.toList).flatten).toArray:=by
    apply Array.ext'
    have:=Qds v.cells m
    rw[hsz] at this
    simpa using this
   have hle:¬(m*s>2 ^ 24):=by omega
   have hfill:Instr.fill (fun i=>some (i*s,s)) (madeCells v.cells (m*s)) (ps.toList.map fun p=>(p.1,Act.eval ⟨tm,df⟩ p.2))=some us.toArray:=by rw[hcells];exact e1
   have hfill2:Instr.fill (fun i=>some (i*s,s)) ((Array.range (m*s)).map (fun x=>v.cells[x%v.cells.size]!)) (ps.map fun p=>(p.1,Act.eval ⟨tm,df⟩ p.2)).toList=some us.toArray:=by
    simpa [madeCells] using hfill
   by_cases hm0:m*s=0
   ·have hm00:m=0:=by rcases Nat.mul_eq_zero.1 hm0 with h|h;exact h;exact absurd h hs0
    subst hm00
    have hr0:Array.range 0=#[]:=rfl
    have hfill3:Instr.fill (fun i=>some (i*s,s)) #[] (ps.map fun p=>(p.1,Act.eval ⟨tm,df⟩ p.2)).toList=some us.toArray:=by simpa [hr0] using hfill2
    have hfill3':Instr.fill (fun i=>some (i*s,s)) #[] (List.map (fun p=>(p.1,Act.eval ⟨tm,df⟩ p.2)) ps.toList)=some us.toArray:=by simpa using hfill3
    simp [execOp,ho,Instr.buildSlice,run_underlying hu,JS hz,newRow,hfill3',hr0]
   ·have hfill2':Instr.fill (fun i=>some (i*s,s)) ((Array.range (m*s)).map (fun x=>v.cells[x%v.cells.size]!)) (List.map (fun p=>(p.1,Act.eval ⟨tm,df⟩ p.2)) ps.toList)=some us.toArray:=by simpa using hfill2
    have hle':¬(16777216<m*s):=by omega
    simp [execOp,ho,Instr.buildSlice,run_underlying hu,JS hz,hm0,hle',hv,newRow,hfill2']
 ·cases he
end
end Go.Am
