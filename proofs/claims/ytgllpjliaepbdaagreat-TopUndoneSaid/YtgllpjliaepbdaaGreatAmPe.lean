/- Contracts and what they rest on: AmPe. -/
import Derived.Test.YtgllpjliaepbdaaGreatAmPd
import Derived.Maps.RangeRun
import Derived.Lib.AppendZerosOnto
set_option linter.unusedVariables false
set_option linter.unusedSimpArgs false
set_option linter.unnecessarySimpa false
namespace Go.Am
open Go
section
variable {P:Program} {B:Base} {κ:Nat→Option KI} {hp hp':qHp} {F:Nat→Prop} {w:World} {sl:qSl} {tm:Array Value} {df:List Deferred} {n:Nat} {d:D}
theorem QnH{t:TypeId}{m:Nat}(h:JU P t=some m):∃kk,P.underlying t=some (.int kk)∧m=1:=by
 unfold JU at h
 split at h
 ·rename_i kk hu
  simp only[Qb] at h
  exact⟨kk,hu,h.symm⟩
 ·cases h
theorem QeI{t:TypeId}{m:Nat}(h:YV P t=some m):Ze P t=some m∧∃fs,P.underlying t=some (.struct fs)∧Zm (JU P) fs.toList 0=some m:=by
 unfold YV at h
 split at h
 case h_2=>cases h
 rename_i fs hu
 split at h
 ·rename_i e;exact⟨e.trans h,fs,by assumption,h⟩
 ·cases h
theorem Qhu{t:TypeId}{m:Nat}(h:YV P t=some m)(em:Bool)(d:Nat){ks:List Int}(hl:ks.length=m):(Instr.checkKey em (d+2) t (X1 ks)).run P w=.ok () w:=by
 obtain⟨_,fs,hu,h⟩:=QeI h
 rw[show d+2=(d+1)+1 from rfl,Instr.checkKey,X1]
 simp only[Sem.run_bind,run_underlying hu,Result.andThen_ok]
 rw[←Array.forIn_toList]
 have key:∀(L:List Field)(i:Nat),Zm (JU P) L i=some m→i≤ks.length→(forIn L PUnit.unit fun f (r:PUnit)=>(do
   if f.name≠ "_" then
    let v←part f.type (ks.map (.int .i64)).toArray f.offset
    Instr.checkKey em (d+1) f.type v
    pure (ForInStep.yield PUnit.unit)
   else pure (ForInStep.yield PUnit.unit):Sem (ForInStep PUnit))).run P w=.ok PUnit.unit w:=by
  intro L
  induction L with
  |nil=>intro i _ _;simp
  |cons f L ih=>
   intro i hi hle
   simp only[Zm] at hi
   split at hi
   case isFalse=>cases hi
   rename_i hn
   simp only[Qk,bne_iff_ne,ne_eq,beq_iff_eq] at hn
   obtain⟨hn,ho⟩:=hn
   split at hi
   case h_2=>cases hi
   rename_i mf hmf
   obtain⟨kk,hkk,rfl⟩:=QnH hmf
   have:=Qev hi
   have hil:i<ks.length:=by omega
   have p1:(part f.type (ks.map (Value.int .i64)).toArray f.offset).run P w=.ok (.int .i64 ks[i]) w:=by
    simp [part,Go.isAgg,run_underlying hkk,ho,Qn hil]
   have p2:(Instr.checkKey em (d+1) f.type (.int .i64 ks[i])).run P w=.ok () w:=by
    simp [Instr.checkKey,run_underlying hkk]
   simp only[List.forIn_cons,Sem.run_bind,hn,ne_eq,not_false_eq_true,if_true,Result.andThen_ok,p1,p2,Sem.run_pure]
   exact ih (i+1) hi (by omega)
 have hk:=key fs.toList 0 h (by omega)
 simp at hk ⊢
 rw[hk]
 rfl
theorem Qhv(ks:List Int):M0 w (ks.map (.int .i64)) (ks.map (Value.int .i64)):=by
 induction ks with
 |nil=>simp [MRs]
 |cons k ks ih=>simp only[List.map_cons,MRs];exact⟨_,_,rfl,by simp [MR],ih⟩
theorem Qhw:∀(a b:List Int),a.length=b.length→X3 (a.map (.int .i64)) (b.map (.int .i64))=some (decide (a=b))
 |[],[],_=>rfl
 |[],_::_,h=>by simp at h
 |_::_,[],h=>by simp at h
 |x::a,y::b,h=>by
  simp only[List.map_cons,X3,if_true,Qhw a b (by simpa using h),Option.map_some,List.cons.injEq,Bool.decide_and]
theorem QnI{t:TypeId}{m:Nat}(h:YV P t=some m){a b:List Int}(ha:a.length=m)(hb:b.length=m):(Op.equal t (X1 a) (X1 b)).run P w=.ok (decide (a=b)) w:=by
 obtain⟨h,_⟩:=QeI h
 unfold Ze at h
 split at h
 case h_2=>cases h
 rename_i fs hfs
 split at h
 case isTrue=>cases h
 have hc:=Qhw a b (by omega)
 have e0:∀(zs:Array Value),zs.toList.length=m→(zs.toList.drop 0).take m=zs.toList:=fun zs hz=>by rw[List.drop_zero,←hz,List.take_length]
 obtain⟨u,v,p1,p2,p3⟩:=Qew (P:=P) (w:=w) 4 t m h 9996 (a.map (.int .i64)) (b.map (.int .i64)) _ (a.map (Value.int .i64)).toArray (b.map (Value.int .i64)).toArray 0 hc (by simpa using ha)
  (by rw[e0 _ (by simpa using ha)];exact Qhv a) (by rw[e0 _ (by simpa using hb)];exact Qhv b)
 have hz:Xi P t=some m:=by
  simp only[JT,hfs] at h
  split at h
  ·cases h
  ·split at h
   ·split at h
    ·simp only[Qb] at h;subst h;assumption
    ·cases h
   ·cases h
 have ep:∀(zs:Array Value),zs.toList.length=m→(part t zs 0).run P w=.ok (.agg zs) w:=fun zs hq=>by
  have:zs.extract 0 m=zs:=by
   have:m=zs.size:=by simpa using hq.symm
   rw[this];simp
  simp [part,Go.isAgg,run_underlying hfs,Qeu hz,this]
 rw[ep _ (by simpa using ha)] at p1
 rw[ep _ (by simpa using hb)] at p2
 simp only[Result.ok.injEq,and_true] at p1 p2
 subst p1 p2
 exact p3
theorem Qhx:∀{l:List (List Int×Int)}{n:Nat},(mapE n l).length=l.length
 |[],_=>rfl
 |(k,x)::l,n=>by simp [mapE,Qhx]
theorem QcZ:∀{l:List (List Int×Int)}{n i:Nat},(mapE n l)[i]?=(l[i]?).map fun p=>⟨X1 p.1,.int .i64 p.2,n+i⟩
 |[],n,i=>by simp [mapE]
 |(k,x)::l,n,0=>by simp [mapE]
 |(k,x)::l,n,i+1=>by simp only[mapE,List.getElem?_cons_succ,QcZ (l:=l)];congr 1;funext p;congr 1;omega
theorem Qhy{t:TypeId}{m:Nat}(h:YV P t=some m){ks:List Int}(hk:ks.length=m):∀(l:List (List Int×Int))(n i:Nat),(∀p∈l,p.1.length=m)→
  (Instr.findAsking t (X1 ks) (mapE n l) i).run P w=.ok ((Yi ks l).map fun p=>(i+p.1,.int .i64 p.2)) w
 |[],n,i,_=>by simp [mapE,Instr.findAsking,Yi]
 |(k,x)::l,n,i,hl=>by
  have e:=QnI (w:=w) h hk (hl (k,x) (by simp))
  simp only[mapE,Instr.findAsking,Sem.run_bind,e,Result.andThen_ok,Yi]
  by_cases hkk:ks=k
  ·simp [hkk]
  ·simp only[hkk,decide_false,Bool.false_eq_true,if_false]
   rw[Qhy h hk l (n+1) (i+1) (fun p hp=>hl p (Qu _ hp))]
   cases Yi ks l with
   |none=>rfl
   |some q=>simp;omega
theorem Qhz{t:TypeId}{m:Nat}(h:YV P t=some m){ks:List Int}(hk:ks.length=m){l:List (List Int×Int)}{n:Nat}(hl:∀p∈l,p.1.length=m):
  (Instr.findKey t (X1 ks) (mapE n l)).run P w=.ok ((Yi ks l).map fun p=>(p.1,.int .i64 p.2)) w:=by
 obtain⟨_,fs,hu,_⟩:=QeI h
 have hf:=Qhy (w:=w) h hk l n 0 hl
 cases l with
 |nil=>simp [Instr.findKey,run_underlying hu,mapE,Instr.findNow,Yi]
 |cons p l=>
  have:Instr.findNow (.struct fs) (X1 ks) (mapE n (p::l)) 0=none:=by
   obtain⟨k,x⟩:=p
   simp [mapE,Instr.findNow,Instr.sameNow]
  simp only[Instr.findKey,Sem.run_bind,run_underlying hu,Result.andThen_ok,this,hf,Nat.zero_add]
theorem QnJ{e:TypeId}{v:Value}(h:(P.info? e).bind (·.zero)=some v):(zeroValue e).run P w=.ok v w:=by
 cases hi:P.info? e with
 |none=>simp [hi] at h
 |some i=>
  simp only[hi,Option.bind_some] at h
  simp [zeroValue,typeInfo,hi,h]
theorem Qc0{b:Nat}{arr:Array MapEntry}{c:Nat}(hb:w.heap[b]?=some (.map arr c)):(getObj b).run P w=.ok (.map arr c) w:=by
 simp [getObj,Sem.run,hb]
theorem QhA{b:Nat}{arr:Array MapEntry}{c:Nat}(hb:w.heap[b]?=some (.map arr c))(o:Obj):(setObj b o).run P w=.ok () {w with heap:=w.heap.setIfInBounds b o}:=by
 simp [setObj,Sem.run,hb]
theorem QnK{mt t e:TypeId}{m:Nat}(hm:P.underlying mt=some (.map t e))(hz:(P.info? e).bind (·.zero)=some (.int .i64 0))(h:YV P t=some m){ks:List Int}(hk:ks.length=m)
  {b:Nat} {arr:Array MapEntry} {c:Nat} (hb:w.heap[b]?=some (.map arr c)) {l:List (List Int×Int)} (ha:arr.toList=mapE 0 l) (hl:∀p∈l,p.1.length=m):
  (Instr.lookup mt (.map (some b)) (X1 ks) true).run P w=.ok (.tuple #[.int .i64 (((Yi ks l).map (·.2)).getD 0),.bool (Yi ks l).isSome]) w:=by
 have hc:=Qhu (w:=w) h arr.isEmpty 9998 hk
 have hf:=Qhz (w:=w) (n:=0) h hk hl
 simp only[Instr.lookup,Sem.run_bind,run_underlying hm,Result.andThen_ok,Qc0 hb,Sem.run_pure,hc,ha,hf]
 cases Yi ks l with
 |none=>simp [QnJ hz]
 |some q=>simp
theorem QbR:∀{l:List (List Int×Int)}{ks:List Int}{i:Nat}{x:Int},Yi ks l=some (i,x)→l[i]?=some (ks,x)
 |[],_,_,_,h=>by simp [Yi] at h
 |(k,y)::l,ks,i,x,h=>by
  simp only[Yi] at h
  split at h
  ·rename_i hk
   simp only[Qb,Qc] at h
   obtain⟨rfl,rfl⟩:=h
   rw[hk];rfl
  ·cases hq:Yi ks l with
   |none=>simp [hq] at h
   |some q=>
    simp only[hq,Option.map_some,Qb,Qc] at h
    obtain⟨rfl,rfl⟩:=h
    exact QbR (i:=q.1) (x:=q.2) (by rw[hq])
theorem QhB:∀{l:List (List Int×Int)}{n i:Nat}{ks:List Int}{x:Int},mapE n (l.set i (ks,x))=(mapE n l).modify i fun e=>{e with key:=X1 ks,val:=.int .i64 x}
 |[],n,i,ks,x=>by simp [mapE]
 |(k,y)::l,n,0,ks,x=>by simp [mapE]
 |(k,y)::l,n,i+1,ks,x=>by simp [mapE,QhB]
theorem QhC:∀{l:List (List Int×Int)}{n:Nat}{ks:List Int}{x:Int},mapE n (l++[(ks,x)])=mapE n l++[⟨X1 ks,.int .i64 x,n+l.length⟩]
 |[],n,ks,x=>by simp [mapE]
 |(k,y)::l,n,ks,x=>by simp [mapE,QhC];omega
theorem QnL(ks:List Int):Instr.sameBits 10000 (X1 ks) (X1 ks)=true:=by
 show Instr.sameBits (9999+1) _ _=true
 simp only[X1,Instr.sameBits,beq_self_eq_true,Bool.true_and,Qs]
 intro p hp
 obtain⟨i,hi,e⟩:=List.getElem_of_mem hp
 rw[List.getElem_zip] at e
 rw[←e]
 simp [Instr.sameBits]
theorem QnM{mt t e:TypeId}{m:Nat}(hm:P.underlying mt=some (.map t e))(h:YV P t=some m){ks:List Int}(hk:ks.length=m)
  {b:Nat} {arr:Array MapEntry} {l:List (List Int×Int)} (hb:w.heap[b]?=some (.map arr l.length)) (ha:arr.toList=mapE 0 l) (hl:∀p∈l,p.1.length=m) (x:Int):
  ∃arr',arr'.toList=mapE 0 (YH l ks x)∧(Instr.mapUpdate mt (.map (some b)) (X1 ks) (.int .i64 x)).run P w=.ok () {w with heap:=w.heap.setIfInBounds b (.map arr' (YH l ks x).length)}:=by
 have hc:=Qhu (w:=w) h false 9998 hk
 have hf:=Qhz (w:=w) (n:=0) h hk hl
 rw[←ha] at hf
 cases hq:Yi ks l with
 |none=>
  rw[hq] at hf
  refine⟨arr.push ⟨X1 ks,.int .i64 x,l.length⟩,?_,?_⟩
  ·simp [YH,hq,QhC,ha]
  ·simp only[Instr.mapUpdate,Sem.run_bind,run_underlying hm,Result.andThen_ok,Qc0 hb,Sem.run_pure,hc,hf,Option.map_none,QhA hb,YH,hq,Qj,List.length_singleton]
 |some q=>
  obtain⟨i,y⟩:=q
  rw[hq] at hf
  have hi:=QbR hq
  have hg:arr[i]?=some ⟨X1 ks,.int .i64 y,i⟩:=by
   rw[←Array.getElem?_toList,ha,QcZ,hi];simp
  have hks:(Instr.keyThatStays (X1 ks) (X1 ks)).run P w=.ok (X1 ks) w:=by simp [Instr.keyThatStays,QnL]
  refine⟨arr.modify i fun e=>{e with key:=X1 ks,val:=.int .i64 x},?_,?_⟩
  ·simp [YH,hq,QhB,ha]
  ·simp only[Instr.mapUpdate,Sem.run_bind,run_underlying hm,Result.andThen_ok,Qc0 hb,Sem.run_pure,hc,hf,Option.map_some,hg,Option.getD_some,hks,QhA hb,YH,hq,QN]
theorem RH.mapE(h:RH B κ hp F w){id m:Nat}{es:List (List Int×Int)}(hl:lk hp id=some (.mp m es)):∃b arr,κ id=some (.box b)∧OB κ hp w id b∧w.heap[b]?=some (.map arr es.length)∧arr.toList=Am.mapE 0 es∧∀p∈es,p.1.length=m:=by
 have:=h.ent id _ hl
 simp only[ER] at this
 obtain⟨b,arr,h1,h2⟩:=this
 exact⟨b,arr,h1,⟨_,_,hl,rfl,h1,.inl rfl⟩,h2⟩
theorem QnN{d:D}{ks:List Int}(h:JR d=some ks):d=.agg (ks.map (.int .i64)):=by
 unfold JR at h
 split at h
 ·rename_i cs
  congr 1
  induction cs generalizing ks with
  |nil=>simp only[QU,Qb] at h;subst h;rfl
  |cons c cs ih=>
   simp only[QU] at h
   split at h
   ·rename_i k l h1 h2
    simp only[Qb] at h
    subst h
    rw[List.map_cons,←ih h2,←Qay h1]
   ·cases h
 ·cases h
theorem QhD{I:Nat→Prop}{d:D}{v:Value}{ks:List Int}(h:JR d=some ks)(hm:MR w I κ d v):v=X1 ks:=by
 rw[QnN h] at hm
 simp only[MR] at hm
 obtain⟨vs,rfl,_,h2⟩:=hm
 have:∀(ks:List Int)(us:List Value),MRs w I κ (ks.map (.int .i64)) us→us=ks.map (.int .i64):=by
  intro ks
  induction ks with
  |nil=>intro us h;simpa [MRs] using h
  |cons k ks ih=>
   intro us h
   simp only[List.map_cons,MRs,MR] at h
   obtain⟨v,us',rfl,rfl,h⟩:=h
   rw[ih _ h];rfl
 unfold X1
 congr 1
 apply Array.ext'
 rw[this _ _ h2]
theorem QhE{I:Nat→Prop}(ks:List Int):MR w I κ (JS ks) (X1 ks):=by
 simp only[JS,X1,MR]
 refine⟨_,rfl,fun u hu=>?_,?_⟩
 ·simp only[Qv] at hu
  obtain⟨k,_,rfl⟩:=hu
  rfl
 ·induction ks with
  |nil=>simp [MRs]
  |cons k ks ih=>simp only[List.map_cons,MRs];exact⟨_,_,rfl,by simp [MR],ih⟩
theorem QnO(h:RH B κ hp F w)(hF:∀k,k<64→F (n+k)){o:Oper}{t:TypeId}(ho:o.op=.makeMap t none){m:Nat}(he:eff n sl hp (.mkM m)=some (d,hp')):
  Res P B κ hp hp' (Fr F n) w ((execOp (Act.eval ⟨tm,df⟩) o).run P w) d:=by
 simp only[eff,Qb,Qc] at he
 obtain⟨rfl,rfl⟩:=he
 have h0:=hF 0 (by omega)
 obtain⟨g1,g2⟩:=h.newO (w':={w with heap:=w.heap.push (.map #[] 0)}) (F':=Fr F n) (m:=n) (ki:=.box w.heap.size) (ent:=.mp m []) rfl rfl rfl ⟨rfl,Qg _⟩ rfl h0 (Fr.ne (k:=0) (by omega)) (fun keep hg=>by
  simp only[ER]
  exact⟨_,_,Xe,hg,rfl,by simp⟩)
 refine⟨_,.map (some w.heap.size),_,.inl ?_,g1,g2,by simp only[MR];exact⟨_,Xe,rfl⟩⟩
 simp [execOp,ho,Instr.makeMap]
theorem QnP(h:RH B κ hp F w)(hs:RS B κ hp w sl tm){o:Oper}{t kt e:TypeId}{xo ko:Operand}(ho:o.op=.lookup t xo ko true)(hu:P.underlying t=some (.map kt e))(hz:(P.info? e).bind (·.zero)=some (.int .i64 0))
  {m:Nat} (hk:YV P kt=some m) {x k:X} (hx:cX xo=some x) (hkx:cX ko=some k) (he:eff n sl hp (.lkM m x k)=some (d,hp')):Res P B κ hp hp' (Fr F n) w ((execOp (Act.eval ⟨tm,df⟩) o).run P w) d:=by
 simp only[eff] at he
 split at he
 case h_2=>cases he
 rename_i id ks hdx hdk
 cases hdk0:ev sl k with
 |none=>rw[hdk0] at hdk;cases hdk
 |some dk=>
 rw[hdk0,Option.bind_some] at hdk
 split at he
 case h_2=>cases he
 rename_i m' es hl
 split at he
 case isFalse=>cases he
 rename_i hc
 obtain⟨rfl,hkl⟩:=hc
 simp only[Qb,Qc] at he
 obtain⟨rfl,rfl⟩:=he
 have hvx:=Xd (df:=df) hs hx hdx
 have hvk:=QhD hdk (Xd (df:=df) hs hkx hdk0)
 obtain⟨b,arr,h1,_,h2,h3,h4⟩:=h.mapE hl
 simp only[MR,h1,Qb,KI.box.injEq] at hvx
 obtain⟨b',rfl,hvx⟩:=hvx
 have hr:=QnK hu hz hk hkl h2 h3 h4
 refine Res.pure h Fr.sub (v:=.tuple #[.int .i64 (((Yi ks es).map (·.2)).getD 0),.bool (Yi ks es).isSome]) ?_ (by simp [MR,MRs])
 simp [execOp,ho,hvx,hvk,hr]
theorem QnQ(w:World)(b:Nat)(o:Obj){arr:Array MapEntry}{c:Nat}(hg:w.heap[b]?=some (.map arr c)):Stp (·=b) w {w with heap:=w.heap.setIfInBounds b o}:=
 ⟨rfl,rfl,rfl,by simp,fun x _ hx=>by
  show (w.heap.setIfInBounds b o)[x]?=_
  rw[QK (fun e=>hx e.symm)],fun x cur e fr hx=>⟨cur,by
  show (w.heap.setIfInBounds b o)[x]?=_
  rw[QK (fun e=>by subst e;rw[hg] at hx;cases hx)];exact hx,rfl⟩⟩
theorem QnR{es:List (List Int×Int)}{ks:List Int}{x:Int}{m:Nat}(hk:ks.length=m)(h:∀p∈es,p.1.length=m):∀p∈YH es ks x,p.1.length=m:=by
 intro p hp
 unfold YH at hp
 split at hp
 ·rcases List.mem_or_eq_of_mem_set hp with hp|rfl
  ·exact h p hp
  ·exact hk
 ·rcases Qd.1 hp with hp|hp
  ·exact h p hp
  ·simp only[Qm] at hp;subst hp;exact hk
theorem QnS(h:RH B κ hp F w)(hs:RS B κ hp w sl tm){o:Oper}{t kt e:TypeId}{xo ko vo:Operand}(ho:o.op=.mapUpdate t xo ko vo)(hu:P.underlying t=some (.map kt e))
  {m:Nat} (hk:YV P kt=some m) {x k v:X} (hx:cX xo=some x) (hkx:cX ko=some k) (hvx:cX vo=some v) (he:eff n sl hp (.upM m x k v)=some (d,hp')):Res P B κ hp hp' (Fr F n) w ((execOp (Act.eval ⟨tm,df⟩) o).run P w) d:=by
 simp only[eff] at he
 split at he
 case h_2=>cases he
 rename_i id ks y hdx hdk hdv
 cases hdk0:ev sl k with
 |none=>rw[hdk0] at hdk;cases hdk
 |some dk=>
 rw[hdk0,Option.bind_some] at hdk
 split at he
 case h_2=>cases he
 rename_i m' es hl
 split at he
 case isFalse=>cases he
 rename_i hc
 obtain⟨rfl,hkl⟩:=hc
 simp only[Qb,Qc] at he
 obtain⟨rfl,rfl⟩:=he
 have hv1:=Xd (df:=df) hs hx hdx
 have hv2:=QhD hdk (Xd (df:=df) hs hkx hdk0)
 have hv3:=Xd (df:=df) hs hvx hdv
 rw[MR.int] at hv3
 obtain⟨b,arr,h1,hob,h2,h3,h4⟩:=h.mapE hl
 simp only[MR,h1,Qb,KI.box.injEq] at hv1
 obtain⟨b',rfl,hv1⟩:=hv1
 obtain⟨arr',ha',hr⟩:=QnM hu hk hkl h2 h3 h4 y
 have hbl:=(QB.1 h2).1
 obtain⟨g1,g2⟩:=h.change (F':=Fr F n) hob (QnQ w _ (.map arr' (YH es ks y).length) h2) Fr.sub (ent:=.mp m' (YH es ks y)) (fun keep=>by
  simp only[ER]
  exact⟨_,arr',h1,by show (w.heap.setIfInBounds _ _)[_]?=_;rw[QO hbl],ha',QnR hkl h4⟩)
 refine⟨κ,undef,_,.inr ⟨?_,rfl⟩,g1,g2,by simp only[MR];exact QbM⟩
 simp [execOp,ho,hv1,hv2,hv3,hr]
theorem QnT(h:RH B κ hp F w)(hs:RS B κ hp w sl tm)(hF:∀k,k<64→F (n+k)){o:Oper}{t kt e:TypeId}{xo:Operand}(ho:o.op=.range t xo)(hu:P.underlying t=some (.map kt e)){m:Nat}{x:X}(hx:cX xo=some x)
  (he:eff n sl hp (.rgM m x)=some (d,hp')):Res P B κ hp hp' (Fr F n) w ((execOp (Act.eval ⟨tm,df⟩) o).run P w) d:=by
 simp only[eff] at he
 split at he
 case h_2=>cases he
 rename_i id hdx
 split at he
 case h_2=>cases he
 rename_i m' es hl
 split at he
 case isFalse=>cases he
 rename_i hc
 subst hc
 simp only[Qb,Qc] at he
 obtain⟨rfl,rfl⟩:=he
 have hvx:=Xd (df:=df) hs hx hdx
 obtain⟨bm,arr,h1,hob,h2,h3,h4⟩:=h.mapE hl
 simp only[MR,h1,Qb,KI.box.injEq] at hvx
 obtain⟨b',rfl,hvx⟩:=hvx
 have h0:=hF 0 (by omega)
 obtain⟨k1,k2⟩:=h.forget id
 have hbl:=(QB.1 h2).1
 have him:Im B κ (rm hp id) w bm:=⟨(h.own bm ⟨id,hob⟩).1.elim (fun g=>.inr (.inl g)) (fun g=>.inr (.inr g)),hbl,fun⟨i,e,k,g1,g2⟩=>by
  rw[Yo] at g1
  split at g1
  ·cases g1
  ·rename_i hne;exact hne (h.inj _ _ _ ⟨e,k,g1,g2⟩ hob)⟩
 obtain⟨g1,g2⟩:=k1.newO (w':={w with heap:=w.heap.push (.mapIter (some bm) es.length #[] es.length)}) (F':=Fr F n) (m:=n) (ki:=.box w.heap.size) (ent:=.it m' es []) rfl rfl rfl ⟨rfl,Qg _⟩ rfl h0 (Fr.ne (k:=0) (by omega)) (fun keep hg=>by
  simp only[ER]
  exact⟨_,bm,arr,Xe,hg,keep.mem bm him,by rw[keep.same bm him];exact h2,h3,h4⟩)
 refine⟨_,.pointer (some ⟨w.heap.size,0,none⟩),_,.inl ?_,g1,k2.trans g2,by simp only[MR];exact⟨_,Xe,rfl⟩⟩
 simp [execOp,ho,hvx,Instr.range,run_underlying hu,Qc0 h2]
theorem QhF:∀{l:List (List Int×Int)}{n:Nat},(mapE n l).map (·.born)=List.range' n l.length
 |[],n=>rfl
 |(k,x)::l,n=>by simp [mapE,QhF,List.range'_succ]
theorem RH.iter(h:RH B κ hp F w){id m:Nat}{es:List (List Int×Int)}{seen:List Nat}(hl:lk hp id=some (.it m es seen)):∃b bm arr,κ id=some (.box b)∧OB κ hp w id b∧w.heap[b]?=some (.mapIter (some bm) es.length seen.toArray es.length)∧
  Im B κ hp w bm∧w.heap[bm]?=some (.map arr es.length)∧arr.toList=Am.mapE 0 es∧∀p∈es,p.1.length=m:=by
 have:=h.ent id _ hl
 simp only[ER] at this
 obtain⟨b,bm,arr,h1,h2⟩:=this
 exact⟨b,bm,arr,h1,⟨_,_,hl,rfl,h1,.inl rfl⟩,h2⟩
theorem QnU(h:RH B κ hp F w)(hs:RS B κ hp w sl tm){o:Oper}{xo:Operand}(ho:o.op=.entry xo){x:X}(hx:cX xo=some x)(he:eff n sl hp (.enM x)=some (d,hp')):Res P B κ hp hp' (Fr F n) w ((execOp (Act.eval ⟨tm,df⟩) o).run P w) d:=by
 simp only[eff] at he
 split at he
 case h_2=>cases he
 rename_i id off hdx
 split at he
 case h_2=>cases he
 rename_i m es seen hl
 split at he
 case h_2=>cases he
 rename_i j hj
 split at he
 case h_2=>cases he
 rename_i k v hjv
 split at he
 case isFalse=>cases he
 rename_i hoff
 subst hoff
 simp only[Qb,Qc] at he
 obtain⟨rfl,rfl⟩:=he
 have hvx:=Xd (df:=df) hs hx hdx
 obtain⟨b,bm,arr,h1,_,h2,_,h3,h4,_⟩:=h.iter hl
 simp only[MR,h1,Qb,KI.box.injEq] at hvx
 obtain⟨b',rfl,hvx⟩:=hvx
 obtain⟨s0,rfl⟩:∃s0,seen=s0++[j]:=by
  have:=List.getLast?_eq_some_iff.1 hj
  exact this
 have hm:(⟨X1 k,.int .i64 v,j⟩:MapEntry)∈arr.toList:=by
  rw[h4]
  have:(mapE 0 es)[j]?=some ⟨X1 k,.int .i64 v,j⟩:=by rw[QcZ,hjv];simp
  exact List.mem_of_getElem? this
 have hr:=run_entry_at (P:=P) w b bm es.length s0.toArray arr es.length ⟨X1 k,.int .i64 v,j⟩ (by rw[h2];simp) h3 hm (by rw[h4,QhF];exact List.nodup_range')
 refine Res.pure h Fr.sub (v:=.tuple #[X1 k,.int .i64 v]) ?_ (by
  simp only[MR]
  exact⟨_,rfl,by simp only[MRs];exact⟨_,_,rfl,QhE k,_,_,rfl,by simp [MR],rfl⟩⟩)
 simp [execOp,ho,hvx,hr]
theorem QnV(h:RH B κ hp F w)(hs:RS B κ hp w sl tm){o:Oper}{xo:Operand}(ho:o.op=.next xo false){x:X}(hx:cX xo=some x){id m:Nat}{es:List (List Int×Int)}{seen:List Nat}
  (hdx:ev sl x=some (.pt id 0)) (hl:lk hp id=some (.it m es seen)):
  ((∀j,j<es.length→j∈seen)∧Res P B κ hp hp (Fr F n) w ((execOp (Act.eval ⟨tm,df⟩) o).run P w) (.tup [.bool false]))∨
  ∃j k v,es[j]?=some (k,v)∧j∉seen∧Res P B κ hp (up hp id (.it m es (seen++[j]))) (Fr F n) w ((execOp (Act.eval ⟨tm,df⟩) o).run P w) (.tup [.bool true,JS k,.int .i64 v]):=by
 have hvx:=Xd (df:=df) hs hx hdx
 obtain⟨b,bm,arr,h1,hob,h2,him,h3,h4,h5⟩:=h.iter hl
 simp only[MR,h1,Qb,KI.box.injEq] at hvx
 obtain⟨b',rfl,hvx⟩:=hvx
 have hlen:arr.toList.length=es.length:=by rw[h4,Qhx]
 have hborn:∀(j:Nat)(e:MapEntry),arr.toList[j]?=some e→e.born=j∧∃k v,es[j]?=some (k,v)∧e.key=X1 k∧e.val=.int .i64 v:=fun j e he=>by
  rw[h4,QcZ] at he
  cases hq:es[j]? with
  |none=>rw[hq] at he;cases he
  |some p=>
   rw[hq] at he
   simp only[Option.map_some,Qb,Nat.zero_add] at he
   subst he
   exact⟨rfl,p.1,p.2,rfl,rfl,rfl⟩
 have hold:∀e∈arr.toList,e.born<es.length:=fun e he=>by
  obtain⟨j,hj⟩:=List.getElem?_of_mem he
  rw[(hborn j e hj).1,←hlen]
  exact (Qp.1 hj).1
 have hbl:=(QB.1 h2).1
 have hne:bm≠b:=fun e=>by rw[e,h2] at h3;cases h3
 rcases run_next_at (P:=P) w o.type b bm es.length es.length seen.toArray arr es.length h2 h3 hold (Qg _) with⟨g1,g2⟩|⟨e,g1,w1,g2,g3⟩
 ·refine .inl ⟨fun j hj=>?_,Res.pure h Fr.sub (v:=.tuple #[.bool false]) ?_ (by simp [MR,MRs])⟩
  ·cases hq:arr.toList[j]? with
   |none=>rw[List.getElem?_eq_none_iff] at hq;omega
   |some e=>
    have hb:=(hborn j e hq).1
    have hm:=List.mem_of_getElem? hq
    have:leftOf arr seen.toArray=#[]:=Array.eq_empty_of_size_eq_zero g1
    unfold leftOf at this
    rw[Array.filter_eq_empty_iff] at this
    have:=this e (by simpa using hm)
    simp only[Bool.not_eq_true,Bool.not_eq_false',List.contains_toArray,List.contains_iff_mem] at this
    rw[←hb]
    simpa using this
  ·simp [execOp,ho,hvx,g2]
 ·refine .inr ?_
  unfold leftOf at g1
  simp only[Array.toList_filter,List.mem_filter,Bool.not_eq_eq_eq_not,Bool.not_true] at g1
  obtain⟨q1,q2⟩:=g1
  obtain⟨j,hj⟩:=List.getElem?_of_mem q1
  obtain⟨hb,k,v,r1,r2,r3⟩:=hborn j e hj
  refine⟨j,k,v,r1,fun hm=>by simp [hb,hm] at q2,?_⟩
  have hw1:w1.heap=w.heap∧w1.os=w.os∧w1.tape=w.tape∧w1.output=w.output∧w.drawn≤w1.drawn:=by
   rcases g2 with rfl|rfl
   ·exact⟨rfl,rfl,rfl,rfl,Qg _⟩
   ·exact⟨rfl,rfl,rfl,rfl,Nat.le_succ _⟩
  obtain⟨a1,a2,a3,a4,a5⟩:=hw1
  have hnew:(ChangeMaps.setBlock w1 b (.mapIter (some bm) es.length (seen.toArray.push e.born) es.length)).heap[b]?=some (.mapIter (some bm) es.length (seen.toArray.push e.born) es.length):=by
   show (w1.heap.setIfInBounds _ _)[_]?=_
   rw[QO (by rw[a1];exact hbl)]
  have hsame:∀x,x≠b→(ChangeMaps.setBlock w1 b (.mapIter (some bm) es.length (seen.toArray.push e.born) es.length)).heap[x]?=w.heap[x]?:=fun x hx=>by
   show (w1.heap.setIfInBounds _ _)[_]?=_
   rw[QK (fun e=>hx e.symm),a1]
  obtain⟨c1,c2⟩:=h.change (w':=ChangeMaps.setBlock w1 b (.mapIter (some bm) es.length (seen.toArray.push e.born) es.length)) (F':=Fr F n) hob
   ⟨a2,a3,a4,by show w.heap.size≤(w1.heap.setIfInBounds _ _).size;simp [a1],fun x _ hx=>hsame x hx,fun x cur ty fr hx=>⟨cur,by
    rw[hsame x (fun e=>by subst e;rw[h2] at hx;cases hx)];exact hx,rfl⟩⟩ Fr.sub (ent:=.it m es (seen++[j])) (fun keep=>by
   simp only[ER]
   exact⟨b,bm,arr,h1,by rw[hnew,hb];simp,keep.mem bm him,by rw[hsame bm hne];exact h3,h4,h5⟩)
  refine⟨κ,.tuple #[.bool true,e.key,e.val],_,.inl ?_,c1,c2,?_⟩
  ·simp [execOp,ho,hvx,g3]
  ·simp only[MR]
   exact⟨_,rfl,by rw[r2,r3];simp only[MRs];exact⟨_,_,rfl,by simp [MR],_,_,rfl,QhE k,_,_,rfl,by simp [MR],rfl⟩⟩
end
end Go.Am
namespace Go.Am
open Go
section
variable {P:Program} {B:Base} {κ:Nat→Option KI} {hp hp':qHp} {F:Nat→Prop} {w:World} {sl:qSl} {tm:Array Value} {df:List Deferred} {n:Nat} {d:D}
theorem QnW(h:RH B κ hp F w)(hs:RS B κ hp w sl tm){o:Oper}{c:Call}(ho:o.op=.call c)(hc:c.callee=.builtin .cap){t:TypeId}(ht:c.argTypes.toList=[t]){xo:Operand}(ha:c.args.toList=[xo]){x:X}(hx:cX xo=some x){e:TypeId}(hu:P.underlying t=some (.slice e))
  (he:eff n sl hp (.cap x)=some (d,hp')):Res P B κ hp hp' (Fr F n) w ((execOp (Act.eval ⟨tm,df⟩) o).run P w) d:=by
 simp only[eff] at he
 have ht':c.argTypes=#[t]:=by apply Array.ext';simpa using ht
 have ha':c.args=#[xo]:=by apply Array.ext';simpa using ha
 have run:∀a len cap,Act.eval ⟨tm,df⟩ xo=.slice a len cap→(execOp (Act.eval ⟨tm,df⟩) o).run P w=.ok (.value (.int .i64 cap)) w:=by
  intro a len cap hv
  simp [execOp,ho,resolve,hc,ha',ht',invoke,builtin,Builtin.cap_,run_underlying hu,hv,goInt]
 cases hd:ev sl x with
 |none=>simp [hd] at he
 |some dx=>
  have hv:=Xd (df:=df) hs hx hd
  cases dx<;>simp only[hd,Qb,Qc,reduceCtorEq] at he
  case nl=>
   obtain⟨rfl,rfl⟩:=he
   simp only[MR] at hv
   exact Res.pure h Fr.sub (run _ _ _ hv) (by simp [MR])
theorem QnX(h:RH B κ hp F w)(hs:RS B κ hp w sl tm)(hF:∀k,k<64→F (n+k)){o:Oper}{c:Call}(ho:o.op=.call c)(hc:c.callee=.builtin .append){t u:TypeId}(hat:c.argTypes.toList=[t,u]){xo yo:Operand}(ha:c.args.toList=[xo,yo])
  {e:TypeId} {kn:IntKind} (ht:P.underlying t=some (.slice e)) (hu:P.underlying u=some (.int kn)) {s:Nat} (hz:Xi P e=some s) (hs0:s≠0) {i:TypeInfo} (hi:P.info? e=some i)
  {z:D} (hze:ZX P e=some z) (hoe:Ym s z=true) {x y:X} (hx:cX xo=some x) (hy:cX yo=some y) (he:eff n sl hp (.appz s i.bytes z x y)=some (d,hp')):
  Res P B κ hp hp' (Fr F n) w ((execOp (Act.eval ⟨tm,df⟩) o).run P w) d:=by
 have hsz:i.size=s:=by simpa [Xi,hi] using hz
 have hat':c.argTypes=#[t,u]:=by apply Array.ext';simpa using hat
 have ha':c.args=#[xo,yo]:=by apply Array.ext';simpa using ha
 have hrun:(execOp (Act.eval ⟨tm,df⟩) o).run P w=((Builtin.append_ #[t,u] o.type #[Act.eval ⟨tm,df⟩ xo,Act.eval ⟨tm,df⟩ yo]).run P w).andThen fun v w'=>.ok (.value v) w':=by
  simp [execOp,ho,resolve,hc,ha',hat',invoke,builtin]
 rw[hrun]
 simp only[eff] at he
 split at he
 ·rename_i sz' m hdx hdy
  split at he
  ·rename_i hcnd
   obtain⟨c1,c2⟩:=hcnd
   simp only[Qb,Qc] at he
   obtain⟨rfl,rfl⟩:=he
   cases hdy':ev sl y with
   |none=>simp [hdy'] at hdy
   |some dy=>
    simp only[hdy',Option.bind_some] at hdy
    have hvx:=Xd (df:=df) hs hx hdx
    have hvy:=Xd (df:=df) hs hy hdy'
    rw[Qay hdy,MR.int] at hvy
    simp only[MR] at hvx
    obtain⟨f1,f2⟩:=QaA c2
    obtain⟨v,hzv,hzz,g1,g2⟩:=QbP (w:=w) (I:=Im B κ hp w) hze hoe
    have hzero:i.zero=some v:=by simpa [hi] using hzz
    have hP:=PE.replicate g1 g2 m.toNat
    have hvs:v.cells.size=s:=by simpa using g2
    have hmy:(Value.int .i64 m)=.int .i64 (m.toNat:Int):=by rw[Int.toNat_of_nonneg (by omega)]
    have hnx:Builtin.nextslicecap (0+m.toNat) 0*i.bytes≤281474976710656:=growslice_fits (by omega) (by rw[Nat.zero_add];exact f1)
    rw[hvx,hvy,hmy,Go.Lib.run_append_grow_zeros w t u o.type e i v .i64 kn ht hu hi hzero none 0 0 [] (run_firstCells_none w.drew i.size 0 0 0) m.toNat (by omega) (by omega) (by omega) (by simp only[QS] at f2;omega) (by omega) hnx]
    simp only[Result.andThen_ok]
    have hge:=grownCap_ge w (0+m.toNat) 0 e
    have hle:=QeF (w:=w) (need:=0+m.toNat) (old:=0) (e:=e) (by omega)
    have hzl:(Builtin.zeroCells v.cells m.toNat).toList=(List.replicate m.toNat v.cells.toList).flatten:=QcT v.cells m.toNat
    simp only[Nat.zero_add] at hge hle ⊢
    refine QcU h hF (cur:=#[]++Builtin.zeroCells v.cells m.toNat++Builtin.zeroCells v.cells (grownCap w m.toNat 0 e-m.toNat)) (w':=w.drew.alloc (.cells (#[]++Builtin.zeroCells v.cells m.toNat++Builtin.zeroCells v.cells (grownCap w m.toNat 0 e-m.toNat)) e))
     (us:=(List.replicate m.toNat v.cells.toList).flatten) (cap:=grownCap w m.toNat 0 e) (ty:=e) rfl rfl rfl ⟨rfl,Nat.le_succ _⟩ (fun j u hj=>?_) hP (by simp) f2 hge hle ?_ rfl (Nxt.refl _ _ _ _)
    ·rw[←hzl] at hj
     have hlt:=(Qp.1 hj).1
     rw[←Array.getElem?_toList]
     simp only[Array.toList_append,List.nil_append]
     rw[Qz (by simpa using hlt)]
     exact hj
    ·simp only[Array.size_append,List.size_toArray,List.length_nil,size_zeroCells,hvs]
     have:m.toNat*s+(grownCap w m.toNat 0 e-m.toNat)*s=grownCap w m.toNat 0 e*s:=by
      rw[←Nat.add_mul]
      congr 1
      omega
     omega
  ·cases he
 ·cases he
theorem QnY(h:RH B κ hp F w)(hs:RS B κ hp w sl tm){o:Oper}{xo:Operand}(ho:o.op=.nilCheck xo){x:X}(hx:cX xo=some x)
  (he:eff n sl hp (.fad 0 x)=some (d,hp')):Res P B κ hp hp' (Fr F n) w ((execOp (Act.eval ⟨tm,df⟩) o).run P w) d:=by
 simp only[eff] at he
 have run:∀a,Act.eval ⟨tm,df⟩ xo=.pointer (some a)→(execOp (Act.eval ⟨tm,df⟩) o).run P w=.ok (.value (.pointer (some a))) w:=by
  intro a hv
  simp [execOp,ho,hv]
 cases hd:ev sl x with
 |none=>simp [hd] at he
 |some dx=>
  have hv:=Xd (df:=df) hs hx hd
  cases dx<;>simp only[hd,reduceCtorEq] at he
  case ref cs=>
   split at he
   ·simp only[Qb,Qc] at he
    obtain⟨rfl,rfl⟩:=he
    have hv2:=hv
    simp only[MR,DR] at hv2
    obtain⟨_,b,o',us,hv2,_⟩:=hv2
    refine Res.pure h Fr.sub (run _ hv2) ?_
    rw[hv2] at hv
    exact hv
   ·cases he
  case pt id o'=>
   simp only[Qb,Qc] at he
   obtain⟨rfl,rfl⟩:=he
   have hv2:=hv
   simp only[MR] at hv2
   obtain⟨b,hk,hv2⟩:=hv2
   rw[hv2] at hv
   exact Res.pure h Fr.sub (run _ hv2) hv
  case pe id j o'=>
   simp only[Qb,Qc] at he
   obtain⟨rfl,rfl⟩:=he
   have hv2:=hv
   simp only[MR] at hv2
   obtain⟨b,sz,tot,hk,hv2⟩:=hv2
   rw[hv2] at hv
   exact Res.pure h Fr.sub (run _ hv2) hv
theorem QnZ(h:RH B κ hp F w)(hs:RS B κ hp w sl tm){o:Oper}{c:Call}(ho:o.op=.call c)(hc:c.callee=.builtin .clear){t:TypeId}(ht:c.argTypes.toList=[t]){xo:Operand}(ha:c.args.toList=[xo]){x:X}(hx:cX xo=some x){e:TypeId}(hu:P.underlying t=some (.slice e))
  {s:Nat} (hz:Xi P e=some s) (hs0:s≠0) {z:D} (hze:ZX P e=some z) (hoe:Ym s z=true)
  (he:eff n sl hp (.clr s x)=some (d,hp')):Res P B κ hp hp' (Fr F n) w ((execOp (Act.eval ⟨tm,df⟩) o).run P w) d:=by
 have ht':c.argTypes=#[t]:=by apply Array.ext';simpa using ht
 have ha':c.args=#[xo]:=by apply Array.ext';simpa using ha
 have hrun:(execOp (Act.eval ⟨tm,df⟩) o).run P w=((Builtin.clear_ #[t] o.type #[Act.eval ⟨tm,df⟩ xo]).run P w).andThen fun v w'=>.ok (.value v) w':=by
  simp [execOp,ho,resolve,hc,ha',ht',invoke,builtin]
 rw[hrun]
 simp only[eff] at he
 have hnb:∀b:Bool,(Value.tuple #[])≠.bool b:=fun b e=>by cases e
 split at he
 ·rename_i sz' hdx
  simp only[Qb,Qc] at he
  obtain⟨rfl,rfl⟩:=he
  have hvx:=Xd (df:=df) hs hx hdx
  simp only[MR] at hvx
  have hr:(Builtin.clear_ #[t] o.type #[Act.eval ⟨tm,df⟩ xo]).run P w=.ok (.tuple #[]) w:=by
   rw[hvx];simp [Builtin.clear_,run_underlying hu]
  rw[hr]
  exact Res.pure h Fr.sub rfl (by simp only[MR];exact hnb)
 ·rename_i id lo len hdx
  split at he
  case h_2=>cases he
  rename_i sz' xs hl
  split at he
  case isFalse=>cases he
  rename_i hcnd
  obtain⟨rfl,c1,c2⟩:=hcnd
  simp only[Qb,Qc] at he
  obtain⟨rfl,rfl⟩:=he
  have hvx:=Xd (df:=df) hs hx hdx
  simp only[MR] at hvx
  have hent:=h.ent id _ hl
  simp only[ER] at hent
  have noop:xs.length=lo→(Builtin.clear_ #[t] o.type #[Act.eval ⟨tm,df⟩ xo]).run P w=.ok (.tuple #[]) w→Res P B κ hp (up hp id (.arr sz' (xs.take lo))) (Fr F n) w (((Builtin.clear_ #[t] o.type #[Act.eval ⟨tm,df⟩ xo]).run P w).andThen fun v w'=>.ok (.value v) w') .undef:=fun hlen hr=>by
   have hlk:∀i,lk (up hp id (.arr sz' (xs.take lo))) i=lk hp i:=fun i=>by
    rw[Xw]
    split
    ·rename_i hi;subst hi;rw[hl,Qq (by omega)]
    ·rfl
   have hob:∀i b,OB κ (up hp id (.arr sz' (xs.take lo))) w i b↔OB κ hp w i b:=fun i b=>by simp only[OB,hlk]
   obtain⟨k1,k2⟩:=h.next (κ':=κ) (hp':=up hp id (.arr sz' (xs.take lo))) (F':=Fr F n) (w':=w) (fun _ _ h=>h) (Stp.refl _ _) (fun b ⟨i,ho⟩=>.inl ⟨i,(hob _ _).1 ho⟩) (fun i hi=>h.fr i (Fr.sub i hi)) (fun b ⟨i,ho⟩=>(h.own b ⟨i,(hob _ _).1 ho⟩).2) (fun _ i e he=>.inl ⟨by rw[hlk] at he;exact he,fun _ _ _ _ _=>rfl⟩) (fun i i' b h1 h2=>h.inj i i' b ((hob _ _).1 h1) ((hob _ _).1 h2))
   rw[hr]
   exact⟨κ,.tuple #[],w,.inl rfl,k1,k2,by simp only[MR];exact hnb⟩
  rcases hvx with⟨sz2,m1,hv,_,rfl⟩|⟨b,sz2,tot,off,cap,m1,hv,m2,m3,m4,m5⟩
  ·exact noop (by omega) (by rw[hv];simp [Builtin.clear_,run_underlying hu])
  ·by_cases h0:len=0
   ·subst h0
    exact noop (by omega) (by rw[hv];simp [Builtin.clear_,run_underlying hu])
   ·have hoff:=m5 (.inl (by omega))
    rcases hent.2 with⟨g1,_⟩|⟨b2,tot2,cur,ty,us,g1,g2,g3,g4,g5⟩
    ·rw[m1] at g1;cases g1
    ·rw[m1] at g1
     simp only[Qb,KI.arr.injEq] at g1
     obtain⟨rfl,rfl,rfl⟩:=g1
     obtain⟨v,hzv,_,p1,p2⟩:=QbP (w:=w) (I:=Im B κ hp w) hze hoe
     have hzl:(Builtin.zeroCells v.cells len).toList=(List.replicate len v.cells.toList).flatten:=QcT v.cells len
     have hzn:(Builtin.zeroCells v.cells len).toList.length=len*sz2:=by
      rw[hzl];simp at p2 ⊢;rw[p2]
     have hone:∀u∈(Builtin.zeroCells v.cells len).toList,u.oneCell'=true:=by
      intro u hu
      rw[hzl,List.mem_flatten] at hu
      obtain⟨l,hl,hu⟩:=hu
      rw[List.eq_of_mem_replicate hl] at hu
      exact p1.one u hu
     have hle:off+len*sz2≤cur.size:=by
      have:len*sz2≤cap*sz2:=Nat.mul_le_mul_right _ m2
      omega
     have hst0:=run_storeCells_at P b off ty (Builtin.zeroCells v.cells len).toList 0 cur w g2 (by omega) hone
     simp only[Nat.add_zero,hzn] at hst0
     obtain⟨m,rfl⟩:∃m,len=m+1:=⟨len-1,by omega⟩
     have hr:(Builtin.clear_ #[t] o.type #[Act.eval ⟨tm,df⟩ xo]).run P w=.ok (.tuple #[]) (w.setRow b (cur.toList.take off++(Builtin.zeroCells v.cells (m+1)).toList++cur.toList.drop (off+(m+1)*sz2)).toArray):=by
      rw[hv]
      simp [Builtin.clear_,run_underlying hu,hzv]
      simp at hst0
      rw[hst0]
      rfl
     rw[hr]
     have hob:OB κ hp w id b:=⟨_,_,hl,rfl,m1,.inl rfl⟩
     have hst:=QaB w b (cur.toList.take off++(Builtin.zeroCells v.cells (m+1)).toList++cur.toList.drop (off+(m+1)*sz2)).toArray g2 (by simp only[List.size_toArray,Qj,Qo,List.length_drop,Array.length_toList,hzn] at hzn ⊢;omega)
     obtain⟨k1,k2⟩:=h.change (F':=Fr F n) hob hst Fr.sub (ent:=.arr sz2 (xs.take lo)) (fun keep=>by
      obtain⟨u,u',rfl,q1,q2⟩:=g5.take lo
      have hul:u.length=off:=by rw[q1.length,Qo,hoff];congr 1;omega
      simp only[ER]
      refine⟨by have:=hent.1;simp;omega,.inr ⟨b,tot,_,ty,u,m1,setRow_heap w b cur _ ty _ g2,?_,?_,PE.mono keep _ _ _ q1⟩⟩
      ·simp only[List.size_toArray,Qj,Qo,List.length_drop,Array.length_toList,hzn] at hzn ⊢;omega
      ·refine Mem.set (setRow_heap w b cur _ ty _ g2) (fun j uu hj=>?_)
       have hlt:=(Qp.1 hj).1
       have hc:=Mem.cells g2 (Mem.append.1 g4).1 j uu hj
       simp only[Nat.zero_add] at hc
       rw[←Array.getElem?_toList]
       simp only[Qx]
       rw[Qz (by rw[Qo,Array.length_toList];omega),List.getElem?_take,if_pos (by omega)]
       simpa using hc)
     exact⟨κ,.tuple #[],_,.inl rfl,k1,k2,by simp only[MR];exact hnb⟩
 ·cases he
theorem Qn0:∀{l:List (Nat×Operand)}{i:Nat}{x:X},cPs l=some [(i,x)]→∃xo,l=[(i,xo)]∧cX xo=some x
 |[],_,_,h=>by simp [cPs] at h
 |(i,xo)::l,j,x,h=>by
  simp only[cPs] at h
  split at h
  ·rename_i y m h1 h2
   simp only[Qb,List.cons.injEq,Qc] at h
   obtain⟨⟨rfl,rfl⟩,rfl⟩:=h
   refine⟨xo,?_,h1⟩
   cases l with
   |nil=>rfl
   |cons a l=>
    obtain⟨k,z⟩:=a
    simp only[cPs] at h2
    split at h2<;>cases h2
  ·cases h
set_option maxHeartbeats 1000000 in
theorem Qn1(h:RH B κ hp F w)(hs:RS B κ hp w sl tm)(hF:∀k,k<64→F (n+k)){md:Nat→List Md}{o:Oper}{lop:LOp}(hc:cOp P md o=some lop)(he:eff n sl hp lop=some (d,hp')):
  Res P B κ hp hp' (Fr F n) w ((execOp (Act.eval ⟨tm,df⟩) o).run P w) d:=by
 unfold cOp at hc
 split at hc
 case h_1 x hop=>
  cases hx:cX x with
  |none=>simp [hx] at hc
  |some y=>simp only[hx,Option.map_some,Qb] at hc;subst hc;exact Qhk h hs (.inl hop) hx he
 case h_2 hop=>
  cases hz:(YI P o.type).bind (Xi P) with
  |none=>simp [hz] at hc
  |some y=>simp only[hz,Option.map_some,Qb] at hc;subst hc;exact Qnl h hop he
 case h_3 x hop _=>
  cases hx:cX x with
  |none=>simp [hx] at hc
  |some y=>simp only[hx,Option.map_some,Qb] at hc;subst hc;exact Qhk h hs (.inr ‹_›) hx he
 case h_4 c a b hop=>
  split at hc
  ·rename_i h1 h2 h3;simp only[Qb] at hc;subst hc;exact Qnm h hs hop h1 h2 h3 he
  ·cases hc
 case h_5 e hop=>
  cases hz:zOf P e with
  |none=>simp [hz] at hc
  |some z=>
   simp only[hz,Option.map_some,Qb] at hc;subst hc
   simp only[eff,Qb,Qc] at he
   obtain⟨rfl,rfl⟩:=he
   exact Qm5 h hF hop hz
 case h_6 e x hop=>
  cases hx:cX x with
  |none=>simp [hx] at hc
  |some y=>
   simp only[hx,Option.map_some,Qb] at hc;subst hc
   simp only[eff] at he
   cases hd:(ev sl y).bind YR with
   |none=>simp [hd] at he
   |some cs=>
    simp only[hd,Option.map_some,Qb,Qc] at he
    obtain⟨rfl,rfl⟩:=he
    exact Qm6 h hs hF hop hx hd
 case h_7 t ps hop=>
  split at hc
  ·rename_i fs hu
   split at hc
   ·rename_i pls z l h1 h2 h3;simp only[Qb] at hc;subst hc;exact Qm7 h hs hop hu h1 h2 h3 he
   ·cases hc
  ·rename_i k e hu
   split at hc
   ·rename_i m z l h1 h2 h3;simp only[Qb] at hc;subst hc;exact Qm8 h hs hop hu h1 h2 h3 he
   ·cases hc
  ·cases hc
 case h_8 t m ps hop=>
  unfold YI at hc
  split at hc
  ·rename_i e hu
   split at hu
   ·rename_i e' hu'
    simp only[Qb] at hu
    subst hu
    split at hc
    ·rename_i s i z l h1 h2 h3 h4
     split at hc
     ·cases hc
     ·rename_i hcond
      simp only[not_or,Nat.not_lt] at hcond
      split at hc
      ·split at hc
       ·rename_i x
        split at hc
        ·rename_i hs1
         simp only[Qb] at hc;subst hc
         obtain⟨rfl,_⟩:=hs1
         obtain⟨xo,hps,hx⟩:=Qn0 h4
         exact QnB h hs hF hop hu' h1 h3 (by simpa using hcond.2.2) hps hx he
        ·cases hc
       ·cases hc
      ·simp only[Qb] at hc;subst hc
       exact Qnk h hs hF hop hu' h1 hcond.1 hcond.2.1 h3 (by simpa using hcond.2.2) h4 he
    ·cases hc
   ·cases hu
  ·cases hc
 case h_9 t a hop=>
  split at hc
  ·rename_i h1 h2 h3
   split at hc
   ·cases hc
   ·split at hc
    ·split at hc
     ·rename_i hag;simp only[Qb] at hc;subst hc;exact Qnw h hs hF hop h3 (by rw[h1,hag.1]) (by rw[h2,hag.2]) he
     ·cases hc
    ·simp only[Qb] at hc;subst hc;exact Qg8 h hs hop h3 h1 h2 he
  ·cases hc
 case h_10 t a v hop=>
  split at hc
  ·rename_i h1 h2 h3
   split at hc
   ·cases hc
   ·rename_i h0
    split at hc
    ·split at hc
     ·rename_i hm;simp only[Qb] at hc;subst hc;exact Qny h hs hop h2 h3 (by rw[h1,hm]) he
     ·cases hc
    ·split at hc
     ·simp only[Qb] at hc;subst hc;simp [eff] at he
     ·simp only[Qb] at hc;subst hc;exact QeE h hs hop h2 h3 h1 h0 he
  ·cases hc
 case h_11 op t x y u hop=>
  unfold ZI at hc
  split at hc
  ·rename_i h1 h2 h3;simp only[Qb] at hc;subst hc;exact Qnp h hs hop h2 h3 he
  ·rename_i h1 h2 h3
   split at hc
   ·simp only[Qb] at hc;subst hc;exact Qhl (neg:=false) h hs hop h2 h3 h1 he
   ·simp only[Qb] at hc;subst hc;exact Qhl (neg:=true) h hs hop h2 h3 h1 he
   ·cases hc
  ·rename_i h1 h2 h3
   split at hc
   ·simp only[Qb] at hc;subst hc;exact QeG h hs (.inl ⟨rfl,rfl⟩) hop h2 h3 he
   ·simp only[Qb] at hc;subst hc;exact QeG h hs (.inr (.inl ⟨rfl,rfl⟩)) hop h2 h3 he
   ·simp only[Qb] at hc;subst hc;exact QeG h hs (.inr (.inr ⟨rfl,rfl⟩)) hop h2 h3 he
   ·cases hc
  ·rename_i h1 h2 h3
   split at hc
   ·rename_i hm;simp only[Qb] at hc;subst hc;exact Qhm (neg:=false) h hs hop h2 h3 hm he
   ·rename_i hm;simp only[Qb] at hc;subst hc;exact Qhm (neg:=true) h hs hop h2 h3 hm he
   ·cases hc
  ·split at hc
   ·simp only[Qb] at hc;subst hc;simp [eff] at he
   ·simp only[Qb] at hc;subst hc;simp [eff] at he
   ·cases hc
  ·cases hc
 case h_12 t x hop=>
  cases hx:cX x with
  |none=>simp [hx] at hc
  |some y=>simp only[hx,Option.map_some,Qb] at hc;subst hc;exact Qnn h hs hop hx he
 case h_13 s t x hop=>
  split at hc
  ·rename_i h1 h2 h3;simp only[Qb] at hc;subst hc;exact Qno h hs hop h3 h1 h2 he
  ·cases hc
 case h_14 f first caps hop=>
  split at hc
  ·rename_i hf
   cases hx:QU cX caps.toList with
   |none=>simp [hx] at hc
   |some l=>simp only[hx,Option.map_some,Qb] at hc;subst hc;exact Qni h hs hop hf hx he
  ·cases hc
 case h_15 t l c hop=>
  split at hc
  ·rename_i hsame
   unfold YI at hc
   split at hc
   ·rename_i e hu
    split at hu
    ·rename_i e' hu'
     simp only[Qb] at hu
     subst hu
     split at hc
     ·rename_i s i z l h1 h2 h3 h4
      split at hc
      ·cases hc
      ·rename_i hcond
       simp only[not_or] at hcond
       simp only[Qb] at hc;subst hc
       exact Qnq h hs hF hop hsame hu' h1 h2 h3 (by simpa using hcond.2) h4 he
     ·cases hc
    ·cases hu
   ·cases hc
  ·cases hc
 case h_16 t x lo hi hop=>
  split at hc
  ·rename_i hu
   split at hc
   ·rename_i x' l' h' h1 h2 h3;simp only[Qb] at hc;subst hc
    exact QeH h hs hop hu h1 h2 h3 (.inl ⟨_,_,rfl,rfl,rfl,rfl⟩) he
   ·rename_i x' l' h1 h2 h3;simp only[Qb] at hc;subst hc
    exact QeH h hs hop hu h1 h2 h3 (.inr (.inl ⟨_,rfl,rfl,rfl,rfl⟩)) he
   ·rename_i x' h' h1 h2 h3;simp only[Qb] at hc;subst hc
    exact QeH h hs hop hu h1 h2 h3 (.inr (.inr ⟨_,rfl,rfl,rfl,rfl⟩)) he
   ·cases hc
  ·split at hc
   ·rename_i s x' lo' hi' h1 h2 h3 h4
    simp only[Qb] at hc;subst hc
    cases hu:YI P t with
    |none=>simp [hu] at h1
    |some e=>
     simp only[hu,Option.bind_some] at h1
     unfold YI at hu
     split at hu
     ·rename_i e' hu'
      simp only[Qb] at hu;subst hu
      exact Qnr h hs hop hu' h1 h2 h3 h4 he
     ·cases hu
   ·cases hc
 case h_17 t x f hop=>
  split at hc
  ·rename_i h1 h2;simp only[Qb] at hc;subst hc;exact Qm9 h hs hop h2 h1 he
  ·cases hc
 case h_18 t x f hop=>
  split at hc
  ·rename_i h1 h2;simp only[Qb] at hc;subst hc;exact Qna h hs hop h2 h1 he
  ·cases hc
 case h_19 t x i hop=>
  split at hc
  ·rename_i e x' i' h1 h2 h3
   cases hz:Xi P e with
   |none=>simp [hz] at hc
   |some s=>
    simp only[hz,Option.bind_some] at hc
    split at hc
    ·cases hc
    ·simp only[Qb] at hc;subst hc;exact Qnc h hs hop h2 h3 h1 hz he
  ·rename_i m e x' i' h1 h2 h3
   cases hz:Xi P e with
   |none=>simp [hz] at hc
   |some s=>
    simp only[hz,Option.bind_some] at hc
    split at hc
    ·cases hc
    ·simp only[Qb] at hc;subst hc;exact Qnd h hs hop h2 h3 h1 hz he
  ·cases hc
 case h_20 t x i hop=>
  split at hc
  ·rename_i m e x' i' h1 h2 h3
   split at hc
   ·rename_i h4 h5
    split at hc
    ·cases hc
    ·simp only[Qb] at hc;subst hc;exact Qnb h hs hop h2 h3 h1 h4 h5 he
   ·cases hc
  ·rename_i x' i' h1 h2 h3
   simp only[Qb] at hc;subst hc;exact QnG h hs hop h2 h3 h1 he
  ·cases hc
 case h_21 x i hop=>
  cases hx:cX x with
  |none=>simp [hx] at hc
  |some y=>simp only[hx,Option.map_some,Qb] at hc;subst hc;exact Qnh h hs hop hx he
 case h_22 c hop=>
  split at hc
  ·rename_i hcl
   split at hc
   ·rename_i t u x y hat hargs
    split at hc
    ·rename_i e e' hu1 hu2
     unfold YI at hu1
     split at hu1
     ·rename_i e'' hu1'
      simp only[Qb] at hu1;subst hu1
      split at hc
      ·rename_i s i x' y' h1 h2 h3 h4
       split at hc
       ·cases hc
       ·rename_i hcond
        simp only[not_or,ne_eq,QJ] at hcond
        obtain⟨_,_,c3,c4⟩:=hcond
        cases hzz:i.zero with
        |none=>simp [hzz] at c3
        |some z=>
         simp only[hzz,Option.map_some,Qb] at c4
         split at hc
         ·split at hc
          ·rename_i hs1
           simp only[Qb] at hc;subst hc
           subst hs1
           exact QnC h hs hF hop hcl hat hargs hu1' hu2 h1 h2 hzz c4 h3 h4 he
          ·cases hc
         ·simp only[Qb] at hc;subst hc
          exact Qns h hs hF hop hcl hat hargs hu1' hu2 h1 h2 hzz c4 h3 h4 he
      ·cases hc
     ·cases hu1
    ·rename_i e k hu1 hu2
     unfold YI at hu1
     split at hu1
     ·rename_i e'' hu1'
      simp only[Qb] at hu1;subst hu1
      split at hc
      ·rename_i s i z x' y' h1 h2 h3 h4 h5
       split at hc
       ·cases hc
       ·rename_i hcond
        simp only[Qb] at hc;subst hc
        simp only[not_or,QJ] at hcond
        exact QnX h hs hF hop hcl hat hargs hu1' hu2 h1 hcond.1 h2 h3 hcond.2.2 h4 h5 he
      ·cases hc
     ·cases hu1
    ·cases hc
   ·cases hc
  ·rename_i hcl
   split at hc
   ·rename_i t x hat hargs
    split at hc
    ·rename_i e hu
     cases hx:cX x with
     |none=>simp [hx] at hc
     |some y=>simp only[hx,Option.map_some,Qb] at hc;subst hc;exact Qne h hs hop hcl hat hargs hx hu he
    ·rename_i hu
     cases hx:cX x with
     |none=>simp [hx] at hc
     |some y=>simp only[hx,Option.map_some,Qb] at hc;subst hc;exact QnF h hs hop hcl hat hargs hx hu he
    ·cases hc
   ·cases hc
  ·rename_i hcl
   split at hc
   ·rename_i t x hat hargs
    split at hc
    ·rename_i e hu
     cases hx:cX x with
     |none=>simp [hx] at hc
     |some y=>simp only[hx,Option.map_some,Qb] at hc;subst hc;exact QnW h hs hop hcl hat hargs hx hu he
    ·cases hc
   ·cases hc
  ·rename_i hcl
   split at hc
   ·rename_i t x hat hargs
    split at hc
    ·rename_i e hu
     unfold YI at hu
     split at hu
     ·rename_i e'' hu'
      simp only[Qb] at hu;subst hu
      split at hc
      ·rename_i s z x' h1 h2 h3
       split at hc
       ·cases hc
       ·rename_i hcond
        simp only[Qb] at hc;subst hc
        simp only[not_or,QJ] at hcond
        exact QnZ h hs hop hcl hat hargs h3 hu' h1 hcond.1 h2 hcond.2 he
      ·cases hc
     ·cases hu
    ·cases hc
   ·cases hc
  ·rename_i hcl
   cases hx:QU cX c.args.toList with
   |none=>simp [hx] at hc
   |some y=>simp only[hx,Option.map_some,Qb] at hc;subst hc;exact Qnf h hs hop hcl hx he
  ·rename_i hcl
   cases hx:QU cX c.args.toList with
   |none=>simp [hx] at hc
   |some y=>simp only[hx,Option.map_some,Qb] at hc;subst hc;exact Qng h hs hop hcl hx he
  ·cases hx:QU cX c.args.toList with
   |none=>simp [hx] at hc
   |some y=>simp only[hx,Option.map_some,Qb] at hc;subst hc;simp [eff] at he
  ·split at hc
   ·split at hc<;>(simp only[Qb] at hc;subst hc;simp [eff] at he)
   ·cases hc
  ·rename_i hcl
   split at hc
   ·rename_i t u x y hat hargs
    split at hc
    ·rename_i e hu
     unfold YI at hu
     split at hu
     ·rename_i e'' hu'
      simp only[Qb] at hu;subst hu
      split at hc
      ·rename_i s x' y' h1 h2 h3
       split at hc
       ·cases hc
       ·simp only[Qb] at hc;subst hc
        exact Qnu h hs hop hcl hat hargs hu' h1 h2 h3 he
      ·cases hc
     ·cases hu
    ·cases hc
   ·cases hc
  ·cases hc
 case h_23 x hop=>
  cases hx:cX x with
  |none=>simp [hx] at hc
  |some y=>simp only[hx,Option.map_some,Qb] at hc;subst hc;exact QnY h hs hop hx he
 case h_24 t hop=>
  split at hc
  ·rename_i k e hu
   cases hk:YV P k with
   |none=>simp [hk] at hc
   |some m=>simp only[hk,Option.map_some,Qb] at hc;subst hc;exact QnO h hF hop he
  ·cases hc
 case h_25 t x k hop=>
  split at hc
  ·rename_i kt e x' k' hu h1 h2
   split at hc
   ·rename_i m hk hz;simp only[Qb] at hc;subst hc;exact QnP h hs hop hu hz hk h1 h2 he
   ·cases hc
  ·cases hc
 case h_26 t x k v hop=>
  split at hc
  ·rename_i kt e x' k' v' hu h1 h2 h3
   cases hk:YV P kt with
   |none=>simp [hk] at hc
   |some m=>simp only[hk,Option.map_some,Qb] at hc;subst hc;exact QnS h hs hop hu hk h1 h2 h3 he
  ·cases hc
 case h_27 t x hop=>
  split at hc
  ·rename_i kt e x' hu h1
   cases hk:YV P kt with
   |none=>simp [hk] at hc
   |some m=>simp only[hk,Option.map_some,Qb] at hc;subst hc;exact QnT h hs hF hop hu h1 he
  ·cases hc
 case h_28 x hop=>
  cases hx:cX x with
  |none=>simp [hx] at hc
  |some y=>simp only[hx,Option.map_some,Qb] at hc;subst hc;simp [eff] at he
 case h_29 x hop=>
  cases hx:cX x with
  |none=>simp [hx] at hc
  |some y=>simp only[hx,Option.map_some,Qb] at hc;subst hc;exact QnU h hs hop hx he
 case h_30=>cases hc
end
end Go.Am
namespace Go.Am
open Go
section
variable {P:Program} {B:Base} {κ:Nat→Option KI} {hp hp':qHp} {F:Nat→Prop} {w:World} {n:Nat} {d:D}
theorem QhG{I I0:Nat→Prop}(hk:Keep w w I0 I):∀{cs es:List D}{vs:List Value},MRs w I0 κ cs vs→cs.all YS=true→QU (XE hp) cs=some es→DRs w I es vs []
 |[],es,vs,hm,_,hl=>by
  simp only[QU,Qb] at hl
  subst hl
  simp only[MRs] at hm
  simp [DRs,hm]
 |c::cs,es,vs,hm,hn,hl=>by
  simp only[QU] at hl
  split at hl
  ·rename_i e es' he hes
   simp only[Qb] at hl
   subst hl
   simp only[MRs] at hm
   obtain⟨v,vs',rfl,hv,hm⟩:=hm
   simp only[List.all_cons,Qk] at hn
   simp only[DRs]
   refine⟨v,vs',[],[],rfl,rfl,?_,QhG hk hm hn.2 hes⟩
   have l0:D.ids0 c=[]→Xl hp c=some e→DR w I e v []:=fun h0 hl=>Z0 hk (fun id hi=>by rw[h0] at hi;cases hi) hv hl
   have hn1:=hn.1
   clear hn
   cases c<;>simp only[YS,Bool.false_eq_true] at hn1<;>simp only[XE] at he
   case ref cs=>
    simp only[Qb] at he
    subst he
    simp only[MR] at hv
    exact hv.mono hk _ _ _ (by simp)
   all_goals exact l0 rfl he
  ·cases hl
theorem Qn2{I I0:Nat→Prop}(hk:Keep w w I0 I){e:D}{v:Value}(hr:∀id∈d.ids,Rd w I κ hp id)(hv:MR w I0 κ d v)(hn:ZK d=true)(hl:Xz hp d=some e):DR w I e v []:=by
 have l0:D.ids d=D.ids0 d→Xl hp d=some e→DR w I e v []:=fun he hl=>Z0 hk (fun id hi=>hr id (by rw[he];exact hi)) hv hl
 cases d<;>simp only[ZK,Bool.false_eq_true] at hn<;>simp only[Xz,XE] at hl
 case clo f cs=>
  cases hc:QU (XE hp) cs with
  |none=>simp [hc] at hl
  |some l=>
   simp only[hc,Option.map_some,Qb] at hl
   subst hl
   simp only[MR] at hv
   obtain⟨vs,rfl,h1⟩:=hv
   simp only[DR]
   exact⟨vs,rfl,QhG hk h1 hn hc⟩
 case agg cs=>
  cases hc:QU (Xl hp) cs with
  |none=>simp [hc] at hl
  |some l=>
   simp only[hc,Option.map_some,Qb] at hl
   subst hl
   simp only[MR] at hv
   obtain⟨vs,rfl,h1,h2⟩:=hv
   have:=Qbc hk (fun c hc id hi=>hr id (by simp only[D.ids,Qr];exact⟨c,hc,hi⟩)) h2 h1 hc
   simp only[DR]
   exact⟨vs,rfl,h1,this.to_DRs⟩
 case ref cs=>
  simp only[Qb] at hl
  subst hl
  simp only[MR] at hv
  exact hv.mono hk _ _ _ (by simp)
 all_goals exact l0 rfl hl
def inZ:List (Option (List D))→List Value→List Nat
 |some _::l,.slice (some ⟨c,0,none⟩) _ _::us=>c::inZ l us
 |_::l,_::us=>inZ l us
 |_,_=>[]
def Z1(w:World):Ent→KI→List Nat
 | .nst _ l _,.arr b _ _=>match w.heap[b]? with
  |some (.cells cur _ _)=>inZ l cur.toList
  |_=>[]
 |_,_=>[]
def ebk(w:World)(κ:Nat→Option KI)(p:Nat×Ent):List Nat:=match κ p.1 with
 |some k=>k.blk.toList++Z1 w p.2 k
 |none=>[]
def blks(w:World)(κ:Nat→Option KI)(E:qHp):List Nat:=E.flatMap (ebk w κ)
theorem Qc1:∀{l:List (Option (List D))}{us:List Value}{i:Nat}{xs:List D}{c p q:Nat},l[i]?=some (some xs)→us[i]?=some (Value.slice (some ⟨c,0,none⟩) p q)→c∈inZ l us
 |[],_,_,_,_,_,_,h,_=>by simp at h
 |_::_,[],_,_,_,_,_,_,h=>by simp at h
 |o::l,u::us,0,xs,c,p,q,h1,h2=>by
  simp only[List.getElem?_cons_zero,Qb] at h1 h2
  subst h1 h2
  simp [inZ]
 |o::l,u::us,i+1,xs,c,p,q,h1,h2=>by
  simp only[List.getElem?_cons_succ] at h1 h2
  have:=Qc1 h1 h2
  cases o with
  |none=>simpa [inZ] using this
  |some ys=>
   unfold inZ
   split
   ·rename_i e1 e2;cases e1;cases e2;exact Qu _ this
   ·rename_i e1 e2;cases e1;cases e2;exact this
   ·rename_i h1 h2;exact (h2 _ _ _ _ rfl rfl).elim
theorem QhH:∀{l:List (Option (List D))}{us:List Value}{os:List Nat}{i j:Nat}{xs ys:List D}{c p q r s:Nat},inZ l us=os→os.Nodup→l[i]?=some (some xs)→l[j]?=some (some ys)→
  us[i]?=some (Value.slice (some ⟨c,0,none⟩) p q)→us[j]?=some (Value.slice (some ⟨c,0,none⟩) r s)→i=j
 |[],_,_,_,_,_,_,_,_,_,_,_,_,_,h,_,_,_=>by simp at h
 |_::_,[],_,_,_,_,_,_,_,_,_,_,_,_,_,_,h,_=>by simp at h
 |o::l,u::us,os,0,0,_,_,_,_,_,_,_,_,_,_,_,_,_=>rfl
 |o::l,u::us,os,0,j+1,xs,ys,c,p,q,r,s,he,hn,h1,h2,h3,h4=>by
  simp only[List.getElem?_cons_zero,Qb,List.getElem?_cons_succ] at h1 h2 h3 h4
  subst h1 h3
  simp only[inZ] at he
  subst he
  exact absurd (Qc1 h2 h4) (List.nodup_cons.1 hn).1
 |o::l,u::us,os,i+1,0,xs,ys,c,p,q,r,s,he,hn,h1,h2,h3,h4=>by
  simp only[List.getElem?_cons_zero,Qb,List.getElem?_cons_succ] at h1 h2 h3 h4
  subst h2 h4
  simp only[inZ] at he
  subst he
  exact absurd (Qc1 h1 h3) (List.nodup_cons.1 hn).1
 |o::l,u::us,os,i+1,j+1,xs,ys,c,p,q,r,s,he,hn,h1,h2,h3,h4=>by
  simp only[List.getElem?_cons_succ] at h1 h2 h3 h4
  have hn':(inZ l us).Nodup:=by
   subst he
   cases o with
   |none=>simpa [inZ] using hn
   |some z=>
    unfold inZ at hn
    split at hn
    ·rename_i e1 e2;cases e1;cases e2;exact (List.nodup_cons.1 hn).2
    ·rename_i e1 e2;cases e1;cases e2;exact hn
    ·rename_i h2;exact (h2 _ _ _ _ rfl rfl).elim
  rw[QhH rfl hn' h1 h2 h3 h4]
theorem QeJ{e:Ent}{k:KI}{id b:Nat}(hk:κ id=some k)(h:Ow w e k b):b∈ebk w κ (id,e):=by
 simp only[ebk,hk,Qd]
 rcases h with h|h
 ·left;rw[h];simp
 ·right
  unfold InB at h
  split at h
  ·obtain⟨cur,ty,i,xs,p,q,h1,h2,h3⟩:=h
   simp only[Z1,h1]
   exact Qc1 h2 (by simpa using h3)
  ·exact h.elim
theorem QbS{κ':Nat→Option KI}{p:Nat×Ent}(h:κ' p.1=κ p.1):ebk w κ' p=ebk w κ p:=by simp only[ebk,h]
theorem Qbe{α β:Type}{f g:α→List β}:∀{l:List α},(∀a∈l,f a=g a)→l.flatMap f=l.flatMap g
 |[],_=>rfl
 |a::l,h=>by simp only[List.flatMap_cons,h a (by simp),Qbe (fun x hx=>h x (Qu _ hx))]
structure Took(w:World)(I:Nat→Prop)(κ κ':Nat→Option KI)(n n':Nat)(E:qHp)(os:List Nat):Prop where
 le:n≤n'
 out:∀id,(id<n∨n'≤id)→κ' id=κ id
 ids:∀p∈E,n≤p.1∧p.1<n'
 nodup:(E.map (·.1)).Nodup
 owned:∀p∈E,p.2.owned=true
 blks:blks w κ' E=os
 ent:∀p∈E,ER w I κ' p.1 p.2
theorem Took.nil{I:Nat→Prop}{κ:Nat→Option KI}:Took w I κ κ n n [] []:=⟨Qg _,fun _ _=>rfl,by simp,by simp,by simp,rfl,by simp⟩
theorem Took.kle{I:Nat→Prop}{κ κ':Nat→Option KI}{n':Nat}{E:qHp}{os:List Nat}(h:Took w I κ κ' n n' E os)(hf:∀id,n≤id→id<n'→κ id=none):Kle κ κ':=fun id k hk=>by
 by_cases h1:id<n∨n'≤id
 ·rw[h.out id h1];exact hk
 ·rw[hf id (by omega) (by omega)] at hk;cases hk
theorem Took.trans{I:Nat→Prop}{κ κ' κ'':Nat→Option KI}{n' n'':Nat}{E E':qHp}{os os':List Nat}(h:Took w I κ κ' n n' E os)(k:Took w I κ' κ'' n' n'' E' os')(hf:∀id,n'≤id→id<n''→κ' id=none):
  Took w I κ κ'' n n'' (E++E') (os++os'):=by
 have hk:=k.kle hf
 refine⟨Qt h.le k.le,fun id hid=>?_,fun p hp=>?_,?_,fun p hp=>?_,?_,fun p hp=>?_⟩
 ·have:=h.le;have:=k.le
  rw[k.out id (by omega),h.out id (by omega)]
 ·have:=h.le;have:=k.le
  rcases Qd.1 hp with hp|hp
  ·have:=h.ids p hp;omega
  ·have:=k.ids p hp;omega
 ·rw[List.map_append,Qy]
  refine⟨h.nodup,k.nodup,?_⟩
  intro a ha b hb hab
  obtain⟨p,hp,rfl⟩:=Qv.1 ha
  obtain⟨q,hq,rfl⟩:=Qv.1 hb
  have:=h.ids p hp;have:=k.ids q hq;omega
 ·rcases Qd.1 hp with hp|hp
  ·exact h.owned p hp
  ·exact k.owned p hp
 ·have hb:=h.blks
  have kb:=k.blks
  unfold Am.blks at hb kb ⊢
  rw[List.flatMap_append,kb]
  congr 1
  rw[←hb]
  exact Qbe fun p hp=>QbS (k.out p.1 (.inl (h.ids p hp).2))
 ·rcases Qd.1 hp with hp|hp
  ·refine (h.ent p hp).mono ⟨fun _ h=>h,fun _ _=>rfl⟩ hk (fun _ _ _ _ _=>rfl)
  ·exact k.ent p hp
theorem DRs.scalars{I:Nat→Prop}:∀{cs:List D}{vs:List Value}{os:List Nat},cs.all YS=true→DRs w I cs vs os→os=[]
 |[],_,_,_,h=>by simp only[DRs] at h;exact h.2
 |c::cs,vs,os,hf,h=>by
  simp only[List.all_cons,Qk] at hf
  simp only[DRs] at h
  obtain⟨v,vs',o,o',rfl,rfl,h1,h2⟩:=h
  have:o=[]:=by
   cases c<;>simp only[YS,Bool.false_eq_true,false_and] at hf<;>simp only[DR] at h1<;>first|exact h1.2|exact h1.1
  rw[this,DRs.scalars hf.2 h2];rfl
theorem QhI{I:Nat→Prop}{sz:Nat}:∀{ds:List D}{us:List Value}{os:List Nat},ds.all (Qa9 sz)=true→DRs w I ds us os→
  inZ (ds.map (ZW sz)) us=os∧(∀(i:Nat)(xs:List D),(ds.map (ZW sz))[i]?=some (some xs)→∃v o,us[i]?=some v∧DR w I (.arr sz xs) v o∧∀c∈o,c∈os)∧us.length=ds.length
 |[],us,os,_,h=>by
  simp only[DRs] at h
  obtain⟨rfl,rfl⟩:=h
  simp [inZ]
 |d::ds,us,os,ho,h=>by
  simp only[List.all_cons,Qk] at ho
  simp only[DRs] at h
  obtain⟨v,us',o,o',rfl,rfl,hd,hds⟩:=h
  obtain⟨g1,g2,g3⟩:=QhI ho.2 hds
  cases d<;>simp only[Qa9,Bool.false_eq_true,false_and,Ql] at ho
  rename_i s' xs
  obtain⟨rfl,_⟩:=ho
  refine⟨?_,fun i ys hi=>?_,by simp [g3]⟩
  ·simp only[List.map_cons,ZW,if_true]
   have hd':=hd
   simp only[DR] at hd'
   rcases hd'.2 with⟨rfl,_,rfl⟩|⟨c,cap,_,_,_,rfl,rfl,_⟩
   ·simp [inZ,g1]
   ·simp [inZ,g1]
  ·cases i with
   |zero=>
    simp only[List.map_cons,ZW,if_true,List.getElem?_cons_zero,Qb] at hi
    subst hi
    exact⟨v,o,rfl,hd,fun c hc=>by simp [hc]⟩
   |succ i=>
    simp only[List.map_cons,List.getElem?_cons_succ] at hi
    obtain⟨v',o2,r1,r2,r3⟩:=g2 i ys hi
    exact⟨v',o2,by simpa using r1,r2,fun c hc=>by simp [r3 c hc]⟩
theorem Qbf{I:Nat→Prop}{v:Value}{os:List Nat}(ho:XU d=true)(h:DR w I d v os)(hnd:os.Nodup)(hf:∀id,n≤id→κ id=none):
  ∃κ',Took w I κ κ' n (QW n d).2.2 (QW n d).2.1 os∧MR w I κ' (QW n d).1 v∧(∀id,(QW n d).2.2≤id→κ' id=none):=by
 have plain:os=[]→QW n d=(d,[],n)→∃κ',Took w I κ κ' n (QW n d).2.2 (QW n d).2.1 os∧MR w I κ' (QW n d).1 v∧(∀id,(QW n d).2.2≤id→κ' id=none):=fun hos he=>by
  subst hos
  rw[he]
  exact⟨κ,Took.nil,MR.of_DR d v h,hf⟩
 cases d<;>simp only[XU,Bool.false_eq_true] at ho
 case arr sz xs=>
  simp only[DR] at h
  obtain⟨hmax,⟨rfl,rfl,rfl⟩|⟨b,cap,cur,e,us,rfl,rfl,hg,h1,h2,h3,hM,hP⟩⟩:=h
  ·refine⟨Xf κ n (.nil sz),⟨by simp [QW],fun id hid=>XS (by simp [QW] at hid;omega),by simp [QW],by simp [QW],by simp [QW,Ent.owned],by simp [QW,blks,ebk,Z1,Xe,KI.blk],?_⟩,?_,fun id hid=>?_⟩
   ·simp only[QW,Qm,forall_eq,ER];exact⟨hmax,.inl ⟨Xe,trivial⟩⟩
   ·simp only[QW,MR];exact .inl ⟨sz,Xe,by simp⟩
   ·simp only[QW] at hid;rw[XS (by omega)];exact hf id (by omega)
  ·refine⟨Xf κ n (.arr b sz (cap*sz)),⟨by simp [QW],fun id hid=>XS (by simp [QW] at hid;omega),by simp [QW],by simp [QW],by simp [QW,Ent.owned],by simp [QW,blks,ebk,Z1,Xe,KI.blk],?_⟩,?_,fun id hid=>?_⟩
   ·simp only[QW,Qm,forall_eq,ER];exact⟨hmax,.inr ⟨b,_,cur,e,us,Xe,hg,h3,hM,hP⟩⟩
   ·simp only[QW,MR];exact .inr ⟨b,sz,_,0,cap,Xe,rfl,h1,h2,by simp,fun _=>by simp⟩
   ·simp only[QW] at hid;rw[XS (by omega)];exact hf id (by omega)
 case nst sz ds=>
  simp only[DR] at h
  obtain⟨hmax,b,cap,cur,e,os',rfl,rfl,hg,h1,h2,h3,hds⟩:=h
  obtain⟨q1,q2,q3⟩:=QhI ho hds
  have hnd':=List.nodup_cons.1 hnd
  have hq:∀(i:Nat)(xs:List D)(v:Value),(ds.map (ZW sz))[i]?=some (some xs)→((cur.toList.take ds.length)[i]?=some v↔cur[i]?=some v):=fun i xs v hi=>by
   have:=(Qp.1 hi).1
   rw[List.getElem?_take,if_pos (by simpa using this)]
   simp
  have hz:∀(l:List (Option (List D)))(us:List Value),inZ l (us.take l.length)=inZ l us:=fun l=>by
   induction l with
   |nil=>intro us;simp [inZ]
   |cons o l ih=>
    intro us
    cases us with
    |nil=>simp
    |cons u us=>
     rw[List.length_cons,List.take_succ_cons]
     cases o with
     |none=>simp only[inZ,ih]
     |some xs=>
      unfold inZ
      split
      ·rename_i e1 e2;cases e1;cases e2;simp [ih]
      ·rename_i e0 e1 e2;cases e1;cases e2
       split
       ·rename_i e1 e2;cases e1;cases e2;exact (e0 _ _ _ _ rfl rfl).elim
       ·rename_i e1 e2;cases e1;cases e2;exact ih _
       ·rename_i h2;exact (h2 _ _ _ _ rfl rfl).elim
      ·rename_i h2;exact (h2 _ _ _ _ rfl rfl).elim
  have hin:inZ (ds.map (ZW sz)) cur.toList=os':=by
   have:=hz (ds.map (ZW sz)) cur.toList
   rw[←this,QC];exact q1
  refine⟨Xf κ n (.arr b 1 cap),⟨by simp [QW],fun id hid=>XS (by simp [QW] at hid;omega),by simp [QW],by simp [QW],by simp [QW,Ent.owned],by simp [QW,blks,ebk,Z1,Xe,KI.blk,hg,hin],?_⟩,?_,fun id hid=>?_⟩
  ·simp only[QW,Qm,forall_eq,ER]
   refine⟨by simpa using hmax,(fun _ _ _ h=>by cases h),b,cap,cur,e,Xe,hg,h3,by simpa using h1,fun i xs hi=>?_,fun i j xs ys c p q r s g1 g2 c1 c2=>?_⟩
   ·obtain⟨v,o,r1,r2,r3⟩:=q2 i xs hi
    exact⟨v,o,(hq i xs v hi).1 r1,r2,fun hb=>hnd'.1 (r3 b hb)⟩
   ·exact QhH hin hnd'.2 g1 g2 (by simpa using c1) (by simpa using c2)
  ·simp only[QW,MR];exact .inr ⟨b,1,_,0,cap,Xe,rfl,h1,h2,by simp,fun _=>by simp⟩
  ·simp only[QW] at hid;rw[XS (by omega)];exact hf id (by omega)
 case mp m es=>
  simp only[DR] at h
  obtain⟨b,arr,rfl,rfl,hg,h3,h4⟩:=h
  refine⟨Xf κ n (.box b),⟨by simp [QW],fun id hid=>XS (by simp [QW] at hid;omega),by simp [QW],by simp [QW],by simp [QW,Ent.owned],by simp [QW,blks,ebk,Z1,Xe,KI.blk],?_⟩,?_,fun id hid=>?_⟩
  ·simp only[QW,Qm,forall_eq,ER];exact⟨b,arr,Xe,hg,h3,h4⟩
  ·simp only[QW,MR];exact⟨b,Xe,rfl⟩
  ·simp only[QW] at hid;rw[XS (by omega)];exact hf id (by omega)
 case clo f cs=>
  have h':=h
  simp only[DR] at h'
  obtain⟨vs,_,h2⟩:=h'
  exact plain (DRs.scalars ho h2) rfl
 case lst=>exact plain (DR.lst_os h) rfl
 case ref=>exact plain (by simp only[DR] at h;exact h.1) rfl
 all_goals exact plain (by simp only[DR] at h;exact h.2) rfl
theorem J2{I:Nat→Prop}(f:Nat→D→D×qHp×Nat)(ok:D→Bool)
  (hone:∀(n:Nat)(κ:Nat→Option KI)(d:D)(v:Value)(os:List Nat),ok d=true→DR w I d v os→os.Nodup→(∀id,n≤id→κ id=none)→
   ∃κ',Took w I κ κ' n (f n d).2.2 (f n d).2.1 os∧MR w I κ' (f n d).1 v∧(∀id,(f n d).2.2≤id→κ' id=none)):
  ∀(ds:List D)(n:Nat)(κ:Nat→Option KI)(vs:List Value)(os:List Nat),ds.all ok=true→DRs w I ds vs os→os.Nodup→(∀id,n≤id→κ id=none)→
   ∃κ',Took w I κ κ' n (Xa f n ds).2.2 (Xa f n ds).2.1 os∧MRs w I κ' (Xa f n ds).1 vs∧(∀id,(Xa f n ds).2.2≤id→κ' id=none)
 |[],n,κ,vs,os,_,h,_,hf=>by
  simp only[DRs] at h
  obtain⟨rfl,rfl⟩:=h
  exact⟨κ,Took.nil,by simp [Xa,MRs],hf⟩
 |d::ds,n,κ,vs,os,ho,h,hnd,hf=>by
  simp only[List.all_cons,Qk] at ho
  simp only[DRs] at h
  obtain⟨v,vs',o,o',rfl,rfl,h1,h2⟩:=h
  obtain⟨κ1,t1,m1,f1⟩:=hone n κ d v o ho.1 h1 (Qy.1 hnd).1 hf
  obtain⟨κ2,t2,m2,f2⟩:=J2 f ok hone ds _ κ1 vs' o' ho.2 h2 (Qy.1 hnd).2.1 f1
  refine⟨κ2,t1.trans t2 (fun id h _=>f1 id h),?_,f2⟩
  simp only[Xa,MRs]
  exact⟨v,vs',rfl,m1.mono ⟨fun _ h=>h,fun _ _=>rfl⟩ (t2.kle (fun id h _=>f1 id h)) _ _,m2⟩
theorem Qn3{I:Nat→Prop}{v:Value}{os:List Nat}(ho:okB d=true)(h:DR w I d v os)(hnd:os.Nodup)(hf:∀id,n≤id→κ id=none):
  ∃κ',Took w I κ κ' n (YN n d).2.2 (YN n d).2.1 os∧MR w I κ' (YN n d).1 v∧(∀id,(YN n d).2.2≤id→κ' id=none):=by
 cases d<;>simp only[okB] at ho
 case box cs=>
  simp only[DR] at h
  obtain⟨b,cur,e,os',rfl,rfl,hg,h1,h2⟩:=h
  have hf1:∀id,n+1≤id→Xf κ n (.box b) id=none:=fun id hid=>by rw[XS (by omega)];exact hf id (by omega)
  obtain⟨κ1,t1,m1,f1⟩:=J2 QW XU (fun n κ d v os ho h hd hf=>Qbf ho h hd hf) cs (n+1) (Xf κ n (.box b)) _ os' ho h2 (List.nodup_cons.1 hnd).2 hf1
  have hn:κ1 n=some (.box b):=by rw[t1.out n (.inl (by omega)),Xe]
  have tle:=t1.le
  refine⟨κ1,⟨?_,fun id hid=>?_,?_,?_,?_,?_,?_⟩,?_,f1⟩
  ·simp only[YN];omega
  ·simp only[YN] at hid
   rw[t1.out id (by omega),XS (by omega)]
  ·simp only[YN,Qh,QF]
   exact⟨⟨Qg _,by omega⟩,fun p hp=>by have:=t1.ids p hp;omega⟩
  ·simp only[YN,List.map_cons,List.nodup_cons]
   refine⟨?_,t1.nodup⟩
   intro hm
   obtain⟨p,hp,he⟩:=Qv.1 hm
   have:=t1.ids p hp;omega
  ·simp only[YN,Qh,QF]
   exact⟨rfl,t1.owned⟩
  ·have:=t1.blks
   unfold blks at*
   simp only[YN,List.flatMap_cons,ebk,hn,Z1,KI.blk,Option.toList,List.append_nil,List.singleton_append,List.cons_append,List.nil_append];exact congrArg _ this
  ·simp only[YN,Qh,QF]
   refine⟨?_,t1.ent⟩
   simp only[ER]
   exact⟨b,cur,e,hn,hg,h1,m1⟩
  ·simp only[YN,MR];exact⟨b,hn,rfl⟩
 all_goals exact Qbf (by simpa only[XU] using ho) h hnd hf
theorem QeK{I:Nat→Prop}{v:Value}{os:List Nat}(ho:XK d=true)(h:DR w I d v os)(hnd:os.Nodup)(hf:∀id,n≤id→κ id=none):
  ∃κ',Took w I κ κ' n (Xo n d).2.2 (Xo n d).2.1 os∧MR w I κ' (Xo n d).1 v∧(∀id,(Xo n d).2.2≤id→κ' id=none):=by
 cases d<;>simp only[XK] at ho
 case agg cs=>
  simp only[DR] at h
  obtain⟨vs,rfl,h1,h2⟩:=h
  obtain⟨κ1,t1,m1,f1⟩:=J2 QW XU (fun n κ d v os ho h hd hf=>Qbf ho h hd hf) cs n κ _ os ho h2 hnd hf
  exact⟨κ1,t1,by simp only[Xo,MR];exact⟨vs,rfl,h1,m1⟩,f1⟩
 case clb f cs=>
  simp only[DR] at h
  obtain⟨vs,rfl,h2⟩:=h
  obtain⟨κ1,t1,m1,f1⟩:=J2 YN okB (fun n κ d v os ho h hd hf=>Qn3 ho h hd hf) cs n κ _ os ho h2 hnd hf
  exact⟨κ1,t1,by simp only[Xo,MR];exact⟨vs,rfl,m1⟩,f1⟩
 case box cs=>
  simp only[DR] at h
  obtain⟨b,cur,e,os',rfl,rfl,hg,h1,h2⟩:=h
  have hf1:∀id,n+1≤id→Xf κ n (.box b) id=none:=fun id hid=>by rw[XS (by omega)];exact hf id (by omega)
  obtain⟨κ1,t1,m1,f1⟩:=J2 QW XU (fun n κ d v os ho h hd hf=>Qbf ho h hd hf) cs (n+1) (Xf κ n (.box b)) _ os' ho h2 (List.nodup_cons.1 hnd).2 hf1
  have hn:κ1 n=some (.box b):=by rw[t1.out n (.inl (by omega)),Xe]
  have tle:=t1.le
  refine⟨κ1,⟨?_,fun id hid=>?_,?_,?_,?_,?_,?_⟩,?_,f1⟩
  ·simp only[Xo];omega
  ·simp only[Xo] at hid
   rw[t1.out id (by omega),XS (by omega)]
  ·simp only[Xo,Qh,QF]
   exact⟨⟨Qg _,by omega⟩,fun p hp=>by have:=t1.ids p hp;omega⟩
  ·simp only[Xo,List.map_cons,List.nodup_cons]
   refine⟨?_,t1.nodup⟩
   intro hm
   obtain⟨p,hp,he⟩:=Qv.1 hm
   have:=t1.ids p hp;omega
  ·simp only[Xo,Qh,QF]
   exact⟨rfl,t1.owned⟩
  ·have:=t1.blks
   unfold blks at*
   simp only[Xo,List.flatMap_cons,ebk,hn,Z1,KI.blk,Option.toList,List.append_nil,List.singleton_append,List.cons_append,List.nil_append];exact congrArg _ this
  ·simp only[Xo,Qh,QF]
   refine⟨?_,t1.ent⟩
   simp only[ER]
   exact⟨b,cur,e,hn,hg,h1,m1⟩
  ·simp only[Xo,MR];exact⟨b,hn,rfl⟩
 all_goals exact Qbf (by simpa only[XU] using ho) h hnd hf
theorem Qn4{I:Nat→Prop}{v:Value}{os:List Nat}(ho:okA d=true)(h:DR w I d v os)(hnd:os.Nodup)(hf:∀id,n≤id→κ id=none):
  ∃κ',Took w I κ κ' n (XP n d).2.2 (XP n d).2.1 os∧MR w I κ' (XP n d).1 v∧(∀id,(XP n d).2.2≤id→κ' id=none):=by
 cases d<;>simp only[okA] at ho
 case tup cs=>
  simp only[DR] at h
  obtain⟨vs,rfl,h2⟩:=h
  obtain⟨κ1,t1,m1,f1⟩:=J2 Xo XK (fun n κ d v os ho h hd hf=>QeK ho h hd hf) cs n κ _ os ho h2 hnd hf
  exact⟨κ1,t1,by simp only[XP,MR];exact⟨vs,rfl,m1⟩,f1⟩
 all_goals exact QeK (by simpa only[XK] using ho) h hnd hf
end
end Go.Am
