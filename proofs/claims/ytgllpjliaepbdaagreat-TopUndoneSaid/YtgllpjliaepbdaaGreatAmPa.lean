/- Contracts and what they rest on: AmPa. -/
import Derived.Calls
import Derived.Below
import Derived.Laws.Rows
import Derived.Laws.CopyRow
import Derived.Laws.AppendOwn
import Derived.Laws.MakeOwn
set_option linter.unusedVariables false
set_option linter.unusedSimpArgs false
set_option linter.unnecessarySimpa false
namespace Go.Am
open Go
abbrev Qb:=@Option.some.injEq
abbrev Qc:=@Prod.mk.injEq
abbrev Qd:=@List.mem_append
abbrev Qe:=@decide_eq_true
abbrev Qf:=@decide_eq_false
abbrev Qg:=@Nat.le_refl
abbrev Qh:=@List.mem_cons
abbrev Qi:=@Option.map_eq_some_iff
abbrev Qj:=@List.length_append
abbrev Qk:=@Bool.and_eq_true
abbrev Ql:=@decide_eq_true_eq
abbrev Qm:=@List.mem_singleton
abbrev Qn:=@List.getElem?_eq_getElem
abbrev Qo:=@List.length_take
abbrev Qp:=@List.getElem?_eq_some_iff
abbrev Qq:=@List.take_of_length_le
abbrev Qr:=@List.mem_flatMap
abbrev Qs:=@List.all_eq_true
abbrev Qt:=@Nat.le_trans
abbrev Qu:=@List.mem_cons_of_mem
abbrev Qv:=@List.mem_map
abbrev Qw:=@List.mem_of_mem_take
abbrev Qx:=@List.append_assoc
abbrev Qy:=@List.nodup_append
abbrev Qz:=@List.getElem?_append_left
abbrev QA:=@Nat.add_assoc
abbrev QB:=@Array.getElem?_eq_some_iff
abbrev QC:=@List.length_map
abbrev QD:=@List.drop_of_length_le
abbrev QE:=@List.getElem?_append_right
abbrev QF:=@forall_eq_or_imp
abbrev QG:=@Bool.or_eq_true
abbrev QH:=@Option.bind_eq_some_iff
abbrev QI:=@Nat.lt_of_lt_of_le
abbrev QJ:=@Decidable.not_not
abbrev QK:=@Array.getElem?_setIfInBounds_ne
abbrev QL:=@decide_eq_false_iff_not
abbrev QM:=@List.mem_of_mem_drop
abbrev QN:=@List.length_set
abbrev QO:=@Array.getElem?_setIfInBounds_self_of_lt
inductive D where
 |int (k:IntKind) (n:Int)
 |bool (b:Bool)
 |str (s:ByteArray)
 |nf
 |nl (sz:Nat)
 |lst (sz:Nat) (xs:List D)
 |arr (sz:Nat) (xs:List D)
 |agg (cs:List D)
 |tup (ds:List D)
 |ref (cs:List D)
 |box (cs:List D)
 |nst (sz:Nat) (ds:List D)
 |clo (f:Nat) (caps:List D)
 |clb (f:Nat) (caps:List D)
 |sl (id lo len:Nat)
 |pt (id off:Nat)
 |pe (id i off:Nat)
 |mh (id:Nat)
 |mp (m:Nat) (es:List (List Int×Int))
 |undef
 deriving Inhabited
def QS:Nat:=140737488355328
def X1(ks:List Int):Value:=.agg (ks.map (.int .i64)).toArray
def mapE:Nat→List (List Int×Int)→List MapEntry
 |_,[]=>[]
 |n,(k,x)::l=>⟨X1 k,.int .i64 x,n⟩::mapE (n+1) l
def Mem(w:World)(b off:Nat)(us:List Value):Prop:=∀j u,us[j]?=some u→w.cell? ⟨b,off+j,none⟩=some u
mutual
def DR(w:World)(I:Nat→Prop):D→Value→List Nat→Prop
 | .int k n,v,os=>v=.int k n∧os=[]
 | .bool b,v,os=>v=.bool b∧os=[]
 | .str s,v,os=>v=.string s∧os=[]
 | .nf,v,os=>v=.nilFunc∧os=[]
 | .nl _,v,os=>v=.slice none 0 0∧os=[]
 | .lst sz xs,v,os=>os=[]∧xs.length≤QS∧(((∃p,v=.slice p 0 0)∧xs=[])∨
   ∃b off cap us,v=.slice (some ⟨b,off,none⟩) xs.length cap∧xs.length≤cap∧cap≤maxLen∧I b∧Mem w b off us∧PE w I sz xs us)
 | .arr sz xs,v,os=>xs.length≤QS∧((v=.slice none 0 0∧xs=[]∧os=[])∨
   ∃b cap cur e us,v=.slice (some ⟨b,0,none⟩) xs.length cap∧os=[b]∧w.heap[b]?=some (.cells cur e (0,0))∧xs.length≤cap∧cap≤maxLen∧cap*sz≤cur.size∧Mem w b 0 us∧PE w I sz xs us)
 | .agg cs,v,os=>∃vs,v=.agg vs∧(∀u∈vs.toList,u.oneCell'=true)∧DRs w I cs vs.toList os
 | .tup ds,v,os=>∃vs,v=.tuple vs∧DRs w I ds vs.toList os
 | .ref cs,v,os=>os=[]∧∃b off us,v=.pointer (some ⟨b,off,none⟩)∧I b∧Mem w b off us∧PC w I cs us
 | .box cs,v,os=>∃b cur e os',v=.pointer (some ⟨b,0,none⟩)∧os=b::os'∧w.heap[b]?=some (.cells cur e (0,0))∧(∀u∈cur.toList,u.oneCell'=true)∧DRs w I cs cur.toList os'
 | .nst _ ds,v,os=>ds.length≤QS∧∃b cap cur e os',v=.slice (some ⟨b,0,none⟩) ds.length cap∧os=b::os'∧w.heap[b]?=some (.cells cur e (0,0))∧ds.length≤cap∧cap≤maxLen∧cap≤cur.size∧DRs w I ds (cur.toList.take ds.length) os'
 | .clo f caps,v,os=>∃vs,v=.func (.func f) #[] vs∧DRs w I caps vs.toList os
 | .clb f caps,v,os=>∃vs,v=.func (.func f) #[] vs∧DRs w I caps vs.toList os
 | .mp m es,v,os=>∃b arr,v=.map (some b)∧os=[b]∧w.heap[b]?=some (.map arr es.length)∧arr.toList=mapE 0 es∧∀p∈es,p.1.length=m
 | .sl ..,_,_| .pt ..,_,_| .pe ..,_,_| .mh _,_,_| .undef,_,_=>False
def DRs(w:World)(I:Nat→Prop):List D→List Value→List Nat→Prop
 |[],vs,os=>vs=[]∧os=[]
 |d::ds,vs,os=>∃v vs' o o',vs=v::vs'∧os=o++o'∧DR w I d v o∧DRs w I ds vs' o'
def PC(w:World)(I:Nat→Prop):List D→List Value→Prop
 |[],us=>us=[]
 |c::cs,us=>∃u us',us=u::us'∧u.oneCell'=true∧DR w I c u []∧PC w I cs us'
def PE(w:World)(I:Nat→Prop)(sz:Nat):List D→List Value→Prop
 |[],us=>us=[]
 |x::xs,us=>∃u us',us=u++us'∧u.length=sz∧P1 w I x u∧PE w I sz xs us'
def P1(w:World)(I:Nat→Prop):D→List Value→Prop
 | .agg cs,us=>PC w I cs us
 | .int k n,us=>us=[.int k n]
 | .bool c,us=>us=[.bool c]
 | .str s,us=>us=[.string s]
 | .lst z xs,us=>∃u,us=[u]∧u.oneCell'=true∧xs.length≤QS∧(((∃p,u=.slice p 0 0)∧xs=[])∨
   ∃b off cap us,u=.slice (some ⟨b,off,none⟩) xs.length cap∧xs.length≤cap∧cap≤maxLen∧I b∧Mem w b off us∧PE w I z xs us)
 |_,_=>False
end
structure Stp(O:Nat→Prop)(w w':World):Prop where
 os:w'.os=w.os
 tape:w'.tape=w.tape
 output:w'.output=w.output
 size:w.heap.size≤w'.heap.size
 block:∀b,b<w.heap.size→¬O b→w'.heap[b]?=w.heap[b]?
 len:∀(b:Nat) cur e fr,w.heap[b]?=some (.cells cur e fr)→∃cur',w'.heap[b]?=some (.cells cur' e fr)∧cur'.size=cur.size
theorem Stp.refl(O:Nat→Prop)(w:World):Stp O w w:=⟨rfl,rfl,rfl,Qg _,fun _ _ _=>rfl,fun _ cur _ _ h=>⟨cur,h,rfl⟩⟩
theorem Stp.mono{O O':Nat→Prop}{a b:World}(h:Stp O a b)(hO:∀x,x<a.heap.size→O x→O' x):Stp O' a b:=
 ⟨h.os,h.tape,h.output,h.size,fun x hx hn=>h.block x hx (fun ho=>hn (hO x hx ho)),h.len⟩
theorem Mem.mono{w w':World}{b off:Nat}{us:List Value}(hb:w'.heap[b]?=w.heap[b]?)(h:Mem w b off us):Mem w' b off us:=
 fun j u hj=>(World.cell?_of_block (a:=⟨b,off+j,none⟩) hb).trans (h j u hj)
structure Keep(w w':World)(I I':Nat→Prop):Prop where
 mem:∀b,I b→I' b
 same:∀b,I b→w'.heap[b]?=w.heap[b]?
mutual
theorem DR.mono{w w':World}{I I':Nat→Prop}(k:Keep w w' I I'):
  ∀(d:D)(v:Value)(os:List Nat),(∀b∈os,w'.heap[b]?=w.heap[b]?)→DR w I d v os→DR w' I' d v os
 | .int _ n,v,os,_,h=>by simpa [DR] using h
 | .bool b,v,os,_,h=>by simpa [DR] using h
 | .str b,v,os,_,h=>by simpa [DR] using h
 | .nf,v,os,_,h=>by simpa [DR] using h
 | .nl _,v,os,_,h=>by simpa [DR] using h
 | .lst sz xs,v,os,_,h=>by
  simp only[DR] at h ⊢
  obtain⟨h0,h1,h2⟩:=h
  refine⟨h0,h1,h2.imp id ?_⟩
  rintro⟨b,off,cap,us,hv,hc,hc2,hb,hm,he⟩
  exact⟨b,off,cap,us,hv,hc,hc2,k.mem b hb,hm.mono (k.same b hb),PE.mono k sz xs us he⟩
 | .arr sz xs,v,os,ho,h=>by
  simp only[DR] at h ⊢
  refine⟨h.1,h.2.imp id ?_⟩
  rintro⟨b,cap,cur,e,us,hv,hos,hg,h1,h2,h3,hm,he⟩
  have hb:=ho b (by rw[hos];simp)
  exact⟨b,cap,cur,e,us,hv,hos,by rw[hb];exact hg,h1,h2,h3,hm.mono hb,PE.mono k sz xs us he⟩
 | .agg cs,v,os,ho,h=>by
  simp only[DR] at h ⊢
  obtain⟨vs,hv,h1,hs⟩:=h
  exact⟨vs,hv,h1,DRs.mono k cs _ os ho hs⟩
 | .tup cs,v,os,ho,h=>by
  simp only[DR] at h ⊢
  obtain⟨vs,hv,hs⟩:=h
  exact⟨vs,hv,DRs.mono k cs _ os ho hs⟩
 | .ref cs,v,os,_,h=>by
  simp only[DR] at h ⊢
  obtain⟨h0,b,off,us,hv,hb,hm,hc⟩:=h
  exact⟨h0,b,off,us,hv,k.mem b hb,hm.mono (k.same b hb),PC.mono k cs us hc⟩
 | .box cs,v,os,ho,h=>by
  simp only[DR] at h ⊢
  obtain⟨b,cur,e,os',hv,hos,hg,h1,hs⟩:=h
  subst hos
  exact⟨b,cur,e,os',hv,rfl,by rw[ho b (by simp)];exact hg,h1,DRs.mono k cs _ os' (fun x hx=>ho x (by simp [hx])) hs⟩
 | .nst sz ds,v,os,ho,h=>by
  simp only[DR] at h ⊢
  obtain⟨h0,b,cap,cur,e,os',hv,hos,hg,h1,h2,h3,hs⟩:=h
  subst hos
  exact⟨h0,b,cap,cur,e,os',hv,rfl,by rw[ho b (by simp)];exact hg,h1,h2,h3,DRs.mono k ds _ os' (fun x hx=>ho x (by simp [hx])) hs⟩
 | .clo f cs,v,os,ho,h=>by
  simp only[DR] at h ⊢
  obtain⟨vs,hv,hs⟩:=h
  exact⟨vs,hv,DRs.mono k cs _ os ho hs⟩
 | .clb f cs,v,os,ho,h=>by
  simp only[DR] at h ⊢
  obtain⟨vs,hv,hs⟩:=h
  exact⟨vs,hv,DRs.mono k cs _ os ho hs⟩
 | .mp m es,v,os,ho,h=>by
  simp only[DR] at h ⊢
  obtain⟨b,arr,hv,hos,hg,r⟩:=h
  subst hos
  exact⟨b,arr,hv,rfl,by rw[ho b (by simp)];exact hg,r⟩
 | .mh ..,_,_,_,h=>by simp [DR] at h
 | .sl ..,_,_,_,h=>by simp [DR] at h
 | .pt ..,_,_,_,h=>by simp [DR] at h
 | .pe ..,_,_,_,h=>by simp [DR] at h
 | .undef,_,_,_,h=>by simp [DR] at h
theorem DRs.mono{w w':World}{I I':Nat→Prop}(k:Keep w w' I I'):
  ∀(ds:List D)(vs:List Value)(os:List Nat),(∀b∈os,w'.heap[b]?=w.heap[b]?)→DRs w I ds vs os→DRs w' I' ds vs os
 |[],vs,os,_,h=>by simpa [DRs] using h
 |d::ds,vs,os,ho,h=>by
  simp only[DRs] at h ⊢
  obtain⟨v,vs',o,o',hvs,hos,hd,hds⟩:=h
  subst hos
  exact⟨v,vs',o,o',hvs,rfl,DR.mono k d v o (fun b hb=>ho b (by simp [hb])) hd,DRs.mono k ds vs' o' (fun b hb=>ho b (by simp [hb])) hds⟩
theorem PC.mono{w w':World}{I I':Nat→Prop}(k:Keep w w' I I'):
  ∀(cs:List D)(us:List Value),PC w I cs us→PC w' I' cs us
 |[],us,h=>by simpa [PC] using h
 |c::cs,us,h=>by
  simp only[PC] at h ⊢
  obtain⟨u,us',hu,h1,hd,hc⟩:=h
  exact⟨u,us',hu,h1,DR.mono k c u [] (by simp) hd,PC.mono k cs us' hc⟩
theorem PE.mono{w w':World}{I I':Nat→Prop}(k:Keep w w' I I'):
  ∀(sz:Nat)(xs:List D)(us:List Value),PE w I sz xs us→PE w' I' sz xs us
 |sz,[],us,h=>by simpa [PE] using h
 |sz,x::xs,us,h=>by
  simp only[PE] at h ⊢
  obtain⟨u,us',hu,h1,hd,hc⟩:=h
  exact⟨u,us',hu,h1,P1.mono k x u hd,PE.mono k sz xs us' hc⟩
theorem P1.mono{w w':World}{I I':Nat→Prop}(k:Keep w w' I I'):
  ∀(x:D)(us:List Value),P1 w I x us→P1 w' I' x us
 | .agg cs,us,h=>by
  simp only[P1] at h ⊢
  exact PC.mono k cs us h
 | .int _ n,us,h=>by simpa only[P1] using h
 | .bool _,us,h=>by simpa only[P1] using h
 | .str _,us,h=>by simpa only[P1] using h
 | .lst z xs,us,h=>by
  simp only[P1] at h ⊢
  obtain⟨u,hu,h1,h2,h3⟩:=h
  refine⟨u,hu,h1,h2,h3.imp id ?_⟩
  rintro⟨b,off,cap,us,hv,hc,hc2,hb,hm,he⟩
  exact⟨b,off,cap,us,hv,hc,hc2,k.mem b hb,hm.mono (k.same b hb),PE.mono k z xs us he⟩
 | .nf,_,h| .nl _,_,h| .nst _ _,_,h| .arr _ _,_,h| .tup _,_,h| .ref _,_,h| .box _,_,h
 | .clo _ _,_,h| .sl ..,_,h| .pt ..,_,h| .pe ..,_,h| .mh ..,_,h| .mp ..,_,h| .undef,_,h=>by simp [P1] at h
end
end Go.Am
namespace Go.Am
open Go
instance:Repr ByteArray:=⟨fun b _=>repr b.toList⟩
deriving instance Repr for D
def D.cells:D→List D
 | .agg cs=>cs
 |d=>[d]
def YR:D→Option (List D)
 | .agg cs=>some cs
 | .undef| .tup _| .arr ..| .box _| .clb ..| .nst ..| .mp ..| .mh _=>none
 |d=>some [d]
def lk{α:Type}:List (Nat×α)→Nat→Option α
 |[],_=>none
 |(k,a)::l,n=>if n=k then some a else lk l n
def up{α:Type}:List (Nat×α)→Nat→α→List (Nat×α)
 |[],n,x=>[(n,x)]
 |(k,a)::l,n,x=>if n=k then (k,x)::l else (k,a)::up l n x
def rm{α:Type}:List (Nat×α)→Nat→List (Nat×α)
 |[],_=>[]
 |(k,a)::l,n=>if n=k then rm l n else (k,a)::rm l n
inductive Ent where
 |arr (sz:Nat) (xs:List D)
 |imm (sz:Nat) (xs:List D)
 |box (cs:List D)
 |nst (sz:Nat) (l:List (Option (List D))) (o:Option (Nat×Nat×Nat))
 |lnk (id:Nat)
 |mp (m:Nat) (es:List (List Int×Int))
 |it (m:Nat) (es:List (List Int×Int)) (seen:List Nat)
 deriving Inhabited,Repr
abbrev qHp:=List (Nat×Ent)
abbrev qSl:=List (Nat×D)
structure St where
 sl:qSl
 hp:qHp
 nx:Nat
 deriving Inhabited,Repr
inductive X where
 |t (n:Nat)
 |k (d:D)
 deriving Inhabited,Repr
inductive Md where
 |rd|mu|ow|mp
 deriving Inhabited,Repr,DecidableEq
inductive SF where
 |eql|neq|cat|len|idx
 |sli (lo hi:Bool)
 deriving Inhabited,Repr
inductive LOp where
 |mov (x:X)
 |pick (c a b:X)
 |alloc (z:List D)
 |bx (x:X)
 |build (z:List D) (ps:List (Nat×Nat×X))
 |buildSl (sz bytes:Nat) (z:D) (n:Nat) (ps:List (Nat×X))
 |load (ag:Bool) (n:Nat) (x:X)
 |store (n:Nat) (a x:X)
 |bin (op:BinOp) (x y:X)
 |eqB (neg:Bool) (x y:X)
 |eqA (m:Nat) (neg:Bool) (x y:X)
 |not (x:X)
 |conv (k:IntKind) (x:X)
 |mkf (f:Nat) (caps:List X)
 |makeSl (sz bytes:Nat) (z:D) (len:X)
 |slc (sz:Nat) (x:X) (lo hi:Option X)
 |fad (off:Nat) (x:X)
 |fld (ag:Bool) (off n:Nat) (x:X)
 |iad (sz:Nat) (x i:X)
 |iaa (n sz:Nat) (x i:X)
 |idx (ag:Bool) (n sz:Nat) (x i:X)
 |app (sz bytes:Nat) (x y:X)
 |len (x:X)
 |mn (xs:List X)
 |mx (xs:List X)
 |ext (x:X) (i:Nat)
 |call (f:Nat) (args:List X) (md:List Md)
 |callv (g:X) (args:List X)
 |isnil (neg:Bool) (x:X)
 |bad
 |cap (x:X)
 |appz (sz bytes:Nat) (z:D) (x l:X)
 |clr (sz:Nat) (x:X)
 |bsn (bytes:Nat) (x:X)
 |apn (bytes:Nat) (x y:X)
 |tk (x:X)
 |pu (a x:X)
 |callm (g:X) (args:List X)
 |stf (a x:X)
 |cpy (sz:Nat) (x y:X)
 |sf (f:SF) (xs:List X)
 |mkM (m:Nat)
 |lkM (m:Nat) (x k:X)
 |upM (m:Nat) (x k v:X)
 |rgM (m:Nat) (x:X)
 |nxM (x:X)
 |enM (x:X)
 deriving Inhabited,Repr
structure LI where
 dst:Option Nat
 op:LOp
 guard:Option (Nat×Bool)
 deriving Inhabited,Repr
inductive LC where
 |skip
 |ret
 |exit (id:Nat)
 |seq (a b:LC)
 |reg (ops:List LI) (keep:List Nat)
 |dreg (cs:List (Nat×Option Nat×List Nat×Bool)) (ops:List LI) (keep:List Nat)
 |cond (c:X) (a b:LC)
 |block (id:Nat) (body:LC)
 |loop (keep:List Nat) (body:LC)
 deriving Inhabited,Repr
def QU{α β:Type}(f:α→Option β):List α→Option (List β)
 |[]=>some []
 |a::l=>match f a,QU f l with
  |some b,some m=>some (b::m)
  |_,_=>none
def YS:D→Bool
 | .int ..| .bool _| .nl _| .lst ..| .ref _| .str _=>true
 |_=>false
def Zb(sz:Nat)(l:List (Option (List D))):Option (List D):=QU (fun o=>o.map (.lst sz)) l
def Qat(sz:Nat)(l:List (Option (List D))):Option (List D):=QU (fun o=>o.map (.arr sz)) l
def Xl(hp:qHp):D→Option D
 | .sl id lo len=>match lk hp id with
  |some (.arr sz xs)=>if lo=0∧len=xs.length then some (.lst sz xs) else if lo+len≤xs.length then some (.lst sz ((xs.drop lo).take len)) else none
  |some (.imm sz xs)=>if lo=0∧len=xs.length then some (.lst sz xs) else if lo+len≤xs.length then some (.lst sz ((xs.drop lo).take len)) else none
  |some (.nst sz l none)=>if lo=0∧len=l.length then (Zb sz l).map (.lst 1) else none
  |_=>none
 | .nl sz=>if sz=0 then some (.nl 0) else some (.lst sz [])
 | .int k n=>some (.int k n)
 | .bool b=>some (.bool b)
 | .lst sz xs=>some (.lst sz xs)
 | .str s=>some (.str s)
 | .nf=>some .nf
 |_=>none
def XE(hp:qHp):D→Option D
 | .pt id off=>match lk hp id with
  |some (.box cs)=>(QU (Xl hp) cs).map fun l=>.ref (l.drop off)
  |_=>none
 | .agg cs=>(QU (Xl hp) cs).map .agg
 | .ref cs=>some (.ref cs)
 |d=>Xl hp d
def Xz(hp:qHp):D→Option D
 | .clo f cs=>(QU (XE hp) cs).map (.clo f)
 |d=>XE hp d
def XF(hp:qHp):D→Option (D×qHp)
 | .sl id lo len=>match lk hp id with
  |some (.arr sz xs)=>if lo=0 then (if len=xs.length then some (.arr sz xs,rm hp id) else if len≤xs.length then some (.arr sz (xs.take len),rm hp id) else none) else none
  |some (.imm sz xs)=>if lo=0∧len=xs.length then some (.lst sz xs,hp) else if lo+len≤xs.length then some (.lst sz ((xs.drop lo).take len),hp) else none
  |some (.nst sz l none)=>if lo=0∧len=l.length then (Qat sz l).map fun es=>(.nst sz es,rm hp id) else none
  |_=>none
 | .nl sz=>some (.arr sz [],hp)
 | .int k n=>some (.int k n,hp)
 | .bool b=>some (.bool b,hp)
 | .lst sz xs=>some (.lst sz xs,hp)
 | .str s=>some (.str s,hp)
 | .nf=>some (.nf,hp)
 | .clo f cs=>if cs.all YS=true then some (.clo f cs,hp) else none
 | .mh id=>match lk hp id with
  |some (.mp m es)=>some (.mp m es,rm hp id)
  |_=>none
 |_=>none
def XO{β:Type}(f:qHp→D→Option (β×qHp)):qHp→List D→Option (List β×qHp)
 |hp,[]=>some ([],hp)
 |hp,d::ds=>match f hp d with
  |some (e,hp)=>match XO f hp ds with
   |some (l,hp)=>some (e::l,hp)
   |none=>none
  |none=>none
def JQ(hp:qHp):D→Option (D×qHp)
 | .nl sz=>some (.lst sz [],hp)
 |d=>XF hp d
def ZV(hp:qHp):D→Option (D×qHp)
 | .pt id off=>match lk hp id with
  |some (.box cs)=>if off=0 then (XO JQ (rm hp id) cs).map fun (l,hp)=>(.box l,hp) else none
  |_=>none
 |d=>XF hp d
def X2(hp:qHp):D→Option (D×qHp)
 | .agg cs=>(XO XF hp cs).map fun (l,hp)=>(.agg l,hp)
 | .pt id off=>match lk hp id with
  |some (.box cs)=>if off=0 then (XO XF (rm hp id) cs).map fun (l,hp)=>(.box l,hp) else none
  |_=>none
 | .clo f cs=>(XO ZV hp cs).map fun (l,hp)=>(.clb f l,hp)
 |d=>XF hp d
def ZW(sz:Nat):D→Option (List D)
 | .arr sz' xs=>if sz'=sz then some xs else none
 |_=>none
def QW(n:Nat):D→D×qHp×Nat
 | .arr sz xs=>(.sl n 0 xs.length,[(n,.arr sz xs)],n+1)
 | .nst sz ds=>(.sl n 0 ds.length,[(n,.nst sz (ds.map (ZW sz)) none)],n+1)
 | .mp m es=>(.mh n,[(n,.mp m es)],n+1)
 |d=>(d,[],n)
def Xa{β:Type}(f:Nat→D→β×qHp×Nat):Nat→List D→List β×qHp×Nat
 |n,[]=>([],[],n)
 |n,d::ds=>((f n d).1::(Xa f (f n d).2.2 ds).1,(f n d).2.1++(Xa f (f n d).2.2 ds).2.1,(Xa f (f n d).2.2 ds).2.2)
def YN(n:Nat):D→D×qHp×Nat
 | .box cs=>(.pt n 0,(n,.box (Xa QW (n+1) cs).1)::(Xa QW (n+1) cs).2.1,(Xa QW (n+1) cs).2.2)
 |d=>QW n d
def Xo(n:Nat):D→D×qHp×Nat
 | .agg cs=>(.agg (Xa QW n cs).1,(Xa QW n cs).2)
 | .box cs=>(.pt n 0,(n,.box (Xa QW (n+1) cs).1)::(Xa QW (n+1) cs).2.1,(Xa QW (n+1) cs).2.2)
 | .clb f cs=>(.clo f (Xa YN n cs).1,(Xa YN n cs).2)
 |d=>QW n d
def XP(n:Nat):D→D×qHp×Nat
 | .tup ds=>(.tup (Xa Xo n ds).1,(Xa Xo n ds).2)
 |d=>Xo n d
def D.ids0:D→List Nat
 | .sl id _ _=>[id]
 | .mh id=>[id]
 |_=>[]
def D.ids:D→List Nat
 | .agg cs=>cs.flatMap D.ids0
 |d=>d.ids0
def Ent.frozen:Ent→Ent
 | .arr sz xs=>.imm sz xs
 | .nst sz l none=>match Zb sz l with
  |some es=>.imm 1 es
  |none=>.nst sz l none
 |e=>e
def Q9:List Nat→qHp→qHp
 |[],hp=>hp
 |i::l,hp=>match lk hp i with
  |some e=>Q9 l (up hp i e.frozen)
  |none=>Q9 l hp
def pur(hp:qHp):D→Option D
 | .agg cs=>(QU (Xl hp) cs).map .agg
 |d=>Xl hp d
def rdS(hp:qHp)(sz:Nat):D→Option (List D)
 | .sl id lo len=>match lk hp id with
  |some (.arr sz' xs)=>if sz'=sz then (if lo=0∧len=xs.length then some xs else if lo+len≤xs.length then some ((xs.drop lo).take len) else none) else none
  |some (.imm sz' xs)=>if sz'=sz then (if lo=0∧len=xs.length then some xs else if lo+len≤xs.length then some ((xs.drop lo).take len) else none) else none
  |_=>none
 | .nl _=>some []
 | .lst sz' xs=>if sz'=sz then some xs else none
 |_=>none
def entSz(hp:qHp)(id:Nat):Option Nat:=match lk hp id with
 |some (.arr sz _)=>some sz
 |some (.imm sz _)=>some sz
 |some (.nst ..)=>some 1
 |_=>none
def XQ(l:List D)(off:Nat)(new:List D):List D:=l.take off++new++l.drop (off+new.length)
def ZH(ag:Bool):List D→Option D
 |cs=>if ag then some (.agg cs) else match cs with|[c]=>some c|_=>none
def Yv(ag:Bool)(off n:Nat)(cs:List D):Option D:=if off+n≤cs.length then ZH ag ((cs.drop off).take n) else none
def Yh(op:BinOp)(k:IntKind)(a b:Int):Option D:=
 match op with
 | .add=>some (.int k (k.wrap (a+b)))
 | .sub=>some (.int k (k.wrap (a-b)))
 | .mul=>some (.int k (k.wrap (a*b)))
 | .quo=>if b=0 then none else some (.int k (k.wrap (a.tdiv b)))
 | .rem=>if b=0 then none else some (.int k (a.tmod b))
 | .and=>some (.int k (k.wrap (BitVec.ofInt k.bits a&&&BitVec.ofInt k.bits b).toNat))
 | .or=>some (.int k (k.wrap (BitVec.ofInt k.bits a|||BitVec.ofInt k.bits b).toNat))
 | .xor=>some (.int k (k.wrap (BitVec.ofInt k.bits a ^^^ BitVec.ofInt k.bits b).toNat))
 | .eql=>some (.bool (decide (a=b)))
 | .neq=>some (.bool (!decide (a=b)))
 | .lss=>some (.bool (decide (a<b)))
 | .leq=>some (.bool (decide (a≤b)))
 | .gtr=>some (.bool (decide (b<a)))
 | .geq=>some (.bool (decide (b≤a)))
 |_=>none
def YT(op:BinOp):D→D→Option D
 | .int k a,.int k' b=>match op with
  | .shl=>if b<0 then none else some (.int k (k.wrap (a*2 ^ (min b.toNat k.bits))))
  | .shr=>if b<0 then none else some (.int k (a.fdiv (2 ^ (min b.toNat k.bits))))
  |_=>if k=k' then Yh op k a b else none
 |_,_=>none
def Qa3(neg:Bool):D→D→Option D
 | .bool a,.bool b=>some (.bool (if neg then !decide (a=b) else decide (a=b)))
 |_,_=>none
def X3:List D→List D→Option Bool
 |[],[]=>some true
 | .int k a::l,.int k' b::m=>if k=k' then (X3 l m).map fun c=>decide (a=b)&&c else none
 |_,_=>none
def Qa4(a b:D):Option D:=match a,b with
 | .int k x,.int k' y=>if k=k' then some (.int k (if y<x then y else x)) else none
 |_,_=>none
def Qa5(a b:D):Option D:=match a,b with
 | .int k x,.int k' y=>if k=k' then some (.int k (if x<y then y else x)) else none
 |_,_=>none
def YU(f:D→D→Option D):D→List D→Option D
 |a,[]=>some a
 |a,b::l=>match f a b with|some c=>YU f c l|none=>none
def ev(sl:qSl):X→Option D
 | .t n=>lk sl n
 | .k d=>some d
def asI:D→Option Int
 | .int .i64 n=>some n
 |_=>none
def Y6(sl:qSl)(d0:Int):Option X→Option Int
 |some x=>(ev sl x).bind asI
 |none=>some d0
def Zc(sl:qSl):List (Nat×Nat×X)→List D→Option (List D)
 |[],cs=>some cs
 |(off,n,x)::ps,cs=>match (ev sl x).bind YR with
  |some l=>if l.length=n∧off+n≤cs.length then Zc sl ps (XQ cs off l) else none
  |none=>none
def Qa6:D→Bool
 | .int ..| .bool _| .lst ..| .str _=>true
 |_=>false
def Ym(sz:Nat):D→Bool
 | .agg cs=>decide (cs.length=sz)&&cs.all Qa6
 | .int ..| .bool _| .lst ..| .str _=>decide (sz=1)
 |_=>false
def Yn(sl:qSl)(hp:qHp)(sz:Nat):List (Nat×X)→List D→Option (List D×List Nat)
 |[],es=>some (es,[])
 |(i,x)::ps,es=>match ev sl x with
  |some d=>match pur hp d with
   |some e=>if Ym sz e∧i<es.length then (Yn sl hp sz ps (es.set i e)).map fun (l,f)=>(l,d.ids++f) else none
   |none=>none
  |none=>none
def Ya(n bytes:Nat):Bool:=decide (n*bytes≤140737488355328)&&decide (n≤QS)
def sfD:SF→List D→Option D
 | .eql,[.str a,.str b]=>some (.bool (decide (a=b)))
 | .neq,[.str a,.str b]=>some (.bool (!decide (a=b)))
 | .cat,[.str a,.str b]=>if a.size+b.size≤1000000 then some (.str (a++b)) else none
 | .len,[.str a]=>some (.int .i64 a.size)
 | .idx,[.str a,.int .i64 i]=>if 0≤i then (a[i.toNat]?).map fun b=>.int .u8 b.toNat else none
 | .sli true true,[.str a,.int .i64 l,.int .i64 h]=>if 0≤l∧l≤h∧h≤a.size then some (.str (a.extract l.toNat h.toNat)) else none
 | .sli true false,[.str a,.int .i64 l]=>if 0≤l∧l≤a.size then some (.str (a.extract l.toNat a.size)) else none
 | .sli false true,[.str a,.int .i64 h]=>if 0≤h∧h≤a.size then some (.str (a.extract 0 h.toNat)) else none
 |_,_=>none
def ldE(sl:qSl)(hp:qHp)(ag:Bool)(m:Nat)(x:X):Option (D×qHp):=match ev sl x with
  |some (.pt id off)=>match lk hp id with
   |some (.box cs)=>(Yv ag off m cs).map fun d=>(d,hp)
   |_=>none
  |some (.ref cs)=>(Yv ag 0 m cs).map fun d=>(d,hp)
  |some (.pe id i off)=>match lk hp id with
   |some (.arr _ xs)=>match xs[i]? with
    |some e=>(Yv ag off m e.cells).map fun d=>(d,hp)
    |none=>none
   |some (.imm _ xs)=>match xs[i]? with
    |some e=>(Yv ag off m e.cells).map fun d=>(d,hp)
    |none=>none
   |_=>none
  |_=>none
def stE(sl:qSl)(hp:qHp)(m:Nat)(a x:X):Option (D×qHp):=match ev sl a,ev sl x with
  |some (.pt id off),some d=>match lk hp id,YR d with
   |some (.box cs),some l=>if l.length=m∧off+m≤cs.length then some (.undef,up hp id (.box (XQ cs off l))) else none
   |_,_=>none
  |some (.pe id i off),some d=>match lk hp id with
   |some (.arr sz xs)=>match xs[i]?,pur hp d with
    |some e,some d'=>if d'.cells.length=m∧off+m≤e.cells.length∧d.ids.contains id=false then
      (if m=sz then (if Ym sz d' then some (.undef,up (Q9 d.ids hp) id (.arr sz (xs.set i d'))) else none)
       else if Ym sz (.agg (XQ e.cells off d'.cells)) then some (.undef,up (Q9 d.ids hp) id (.arr sz (xs.set i (.agg (XQ e.cells off d'.cells))))) else none) else none
    |_,_=>none
   |_=>none
  |_,_=>none
def tkE(n:Nat)(sl:qSl)(hp:qHp)(x:X):Option (D×qHp):=match ev sl x with
 |some (.pe id i off)=>match lk hp id with
  |some (.nst sz l none)=>match l[i]? with
   |some (some xs)=>if off=0∧0<xs.length then some (.sl n 0 xs.length,up (up (up hp id (.nst sz (l.set i none) (some (i,n,xs.length)))) n (.arr sz xs)) (n+1) (.lnk id)) else none
   |_=>none
  |_=>none
 |_=>none
def Jt(hp:qHp)(m:Nat):Option (qHp):=match lk hp (m+1) with
 |some (.lnk id)=>match lk hp m,lk hp id with
  |some (.arr sz xs),some (.nst sz' l (some (i,m',len)))=>if m'=m∧sz'=sz∧len=xs.length then some (up (rm hp m) id (.nst sz (l.set i (some xs)) none)) else none
  |_,_=>none
 |_=>none
def Yi(ks:List Int):List (List Int×Int)→Option (Nat×Int)
 |[]=>none
 |(k,x)::l=>if ks=k then some (0,x) else (Yi ks l).map fun p=>(p.1+1,p.2)
def YH(es:List (List Int×Int))(ks:List Int)(x:Int):List (List Int×Int):=match Yi ks es with
 |some (i,_)=>es.set i (ks,x)
 |none=>es++[(ks,x)]
def JR:D→Option (List Int)
 | .agg cs=>QU asI cs
 |_=>none
def JS(ks:List Int):D:=.agg (ks.map (.int .i64))
def eff(n:Nat)(sl:qSl)(hp:qHp):LOp→Option (D×qHp)
 | .mov x=>(ev sl x).map fun d=>(d,hp)
 | .pick c a b=>match ev sl c with
  |some (.bool true)=>(ev sl a).map fun d=>(d,hp)
  |some (.bool false)=>(ev sl b).map fun d=>(d,hp)
  |_=>none
 | .alloc z=>some (.pt n 0,up hp n (.box z))
 | .bx x=>((ev sl x).bind YR).map fun cs=>(.pt n 0,up hp n (.box cs))
 | .build z ps=>(Zc sl ps z).map fun cs=>(.agg cs,hp)
 | .buildSl sz by_ z m ps=>if Ya m by_ then (Yn sl hp sz ps (List.replicate m z)).map fun (es,f)=>(.sl n 0 m,up (Q9 f hp) n (.arr sz es)) else none
 | .load ag m x=>ldE sl hp ag m x
 | .store m a x=>stE sl hp m a x
 | .bin op x y=>match ev sl x,ev sl y with
  |some a,some b=>(YT op a b).map fun d=>(d,hp)
  |_,_=>none
 | .eqB neg x y=>match ev sl x,ev sl y with
  |some a,some b=>(Qa3 neg a b).map fun d=>(d,hp)
  |_,_=>none
 | .eqA m neg x y=>match ev sl x,ev sl y with
  |some (.agg a),some (.agg b)=>if a.length=m then (X3 a b).map fun c=>(.bool (if neg then !c else c),hp) else none
  |_,_=>none
 | .not x=>match ev sl x with
  |some (.bool b)=>some (.bool (!b),hp)
  |_=>none
 | .conv k x=>match ev sl x with
  |some (.int _ m)=>some (.int k (k.wrap m),hp)
  |_=>none
 | .mkf f caps=>(QU (ev sl) caps).map fun l=>(.clo f l,hp)
 | .makeSl sz by_ z l=>match (ev sl l).bind asI with
  |some m=>if 0≤m∧Ya m.toNat by_ then some (.sl n 0 m.toNat,up hp n (.arr sz (List.replicate m.toNat z))) else none
  |none=>none
 | .slc sz x lo hi=>match ev sl x,Y6 sl 0 lo with
  |some (.sl id lo0 len),some l=>match Y6 sl len hi with
   |some h=>if 0≤l∧l≤h∧h≤len∧entSz hp id=some sz then some (.sl id (lo0+l.toNat) (h.toNat-l.toNat),hp) else none
   |none=>none
  |some (.lst sz' xs),some l=>match Y6 sl xs.length hi with
   |some h=>if 0≤l∧l≤h∧h≤xs.length∧sz'=sz then some (.lst sz ((xs.take h.toNat).drop l.toNat),hp) else none
   |none=>none
  |some (.nl sz'),some l=>match Y6 sl 0 hi with
   |some h=>if l=0∧h=0 then some (.nl sz',hp) else none
   |none=>none
  |_,_=>none
 | .fad off x=>match ev sl x with
  |some (.pt id o)=>some (.pt id (o+off),hp)
  |some (.ref cs)=>if off≤cs.length then some (.ref (cs.drop off),hp) else none
  |some (.pe id i o)=>some (.pe id i (o+off),hp)
  |_=>none
 | .fld ag off m x=>match ev sl x with
  |some (.agg cs)=>(Yv ag off m cs).map fun d=>(d,hp)
  |_=>none
 | .iad sz x i=>match ev sl x,(ev sl i).bind asI with
  |some (.sl id lo len),some j=>if 0≤j∧j<len∧entSz hp id=some sz then some (.pe id (lo+j.toNat) 0,hp) else none
  |some (.lst sz' xs),some j=>if 0≤j∧sz'=sz then (match xs[j.toNat]? with|some e=>some (.ref e.cells,hp)|none=>none) else none
  |_,_=>none
 | .iaa m sz x i=>match ev sl x,(ev sl i).bind asI with
  |some (.pt id o),some j=>if 0≤j∧j<m then some (.pt id (o+j.toNat*sz),hp) else none
  |some (.ref cs),some j=>if 0≤j∧j<m∧j.toNat*sz≤cs.length then some (.ref (cs.drop (j.toNat*sz)),hp) else none
  |_,_=>none
 | .idx ag m sz x i=>match ev sl x,(ev sl i).bind asI with
  |some (.agg cs),some j=>if 0≤j∧j<m then (Yv ag (j.toNat*sz) sz cs).map fun d=>(d,hp) else none
  |_,_=>none
 | .app sz by_ x y=>match ev sl x,(ev sl y).bind (rdS hp sz) with
  |some (.nl _),some ys=>if Ya ys.length by_ then some (.sl n 0 ys.length,up hp n (.arr sz ys)) else none
  |some (.sl id lo len),some ys=>match lk hp id with
   |some (.arr sz' xs)=>if lo=0∧sz'=sz∧Ya (len+ys.length) by_ then
     (if len=xs.length then some (.sl n 0 (len+ys.length),up (rm hp id) n (.arr sz (xs++ys)))
      else if len≤xs.length then some (.sl n 0 (len+ys.length),up (rm hp id) n (.arr sz (xs.take len++ys))) else none) else none
   |_=>none
  |_,_=>none
 | .len x=>match ev sl x with
  |some (.sl _ _ len)=>some (.int .i64 len,hp)
  |some (.lst _ xs)=>some (.int .i64 xs.length,hp)
  |some (.nl _)=>some (.int .i64 0,hp)
  |_=>none
 | .mn xs=>match QU (ev sl) xs with
  |some (a::l)=>(YU Qa4 a l).map fun d=>(d,hp)
  |_=>none
 | .mx xs=>match QU (ev sl) xs with
  |some (a::l)=>(YU Qa5 a l).map fun d=>(d,hp)
  |_=>none
 | .ext x i=>match ev sl x with
  |some (.tup ds)=>match ds[i]? with|some d=>some (d,hp)|none=>none
  |_=>none
 | .cap x=>match ev sl x with
  |some (.nl _)=>some (.int .i64 0,hp)
  |_=>none
 | .clr sz x=>match ev sl x with
  |some (.nl _)=>some (.undef,hp)
  |some (.sl id lo len)=>match lk hp id with
   |some (.arr sz' xs)=>if sz'=sz∧lo≤xs.length∧xs.length≤lo+len then some (.undef,up hp id (.arr sz (xs.take lo))) else none
   |_=>none
  |_=>none
 | .appz sz by_ z x l=>match ev sl x,(ev sl l).bind asI with
  |some (.nl _),some m=>if 0<m∧Ya m.toNat by_ then some (.sl n 0 m.toNat,up hp n (.arr sz (List.replicate m.toNat z))) else none
  |_,_=>none
 | .bsn by_ x=>match ev sl x with
  |some (.nl sz)=>if Ya 1 by_ then some (.sl n 0 1,up hp n (.nst sz [some []] none)) else none
  |some (.sl m lo len)=>match lk hp m with
   |some (.arr sz xs)=>if lo=0∧len=xs.length∧Ya 1 by_ then some (.sl n 0 1,up (rm hp m) n (.nst sz [some xs] none)) else none
   |_=>none
  |_=>none
 | .apn by_ x y=>match ev sl x,ev sl y with
  |some (.nl _),some (.sl j lo k)=>match lk hp j with
   |some (.nst sz [some ys] none)=>if lo=0∧k=1∧Ya 1 by_ then some (.sl n 0 1,up (rm hp j) n (.nst sz [some ys] none)) else none
   |_=>none
  |some (.sl id lo' len),some (.sl j lo k)=>match lk hp id,lk hp j with
   |some (.nst sz' l none),some (.nst sz [some ys] none)=>if lo=0∧lo'=0∧len=l.length∧k=1∧sz'=sz∧id≠j∧Ya (len+1) by_ then some (.sl n 0 (len+1),up (rm (rm hp id) j) n (.nst sz (l++[some ys]) none)) else none
   |some (.arr s' []),some (.nst sz [some ys] none)=>if lo=0∧lo'=0∧len=0∧s'=1∧k=1∧Ya 1 by_ then some (.sl n 0 1,up (rm (rm hp id) j) n (.nst sz [some ys] none)) else none
   |_,_=>none
  |_,_=>none
 | .tk x=>match tkE n sl hp x with
  |some r=>some r
  |none=>ldE sl hp false 1 x
 | .pu a x=>match ev sl a with
  |some (.pe m _ _)=>match ev sl x with
   |some (.int ..)=>match stE sl hp 1 a x with
    |some (u,hp1)=>(Jt hp1 m).map fun hp2=>(u,hp2)
    |none=>none
   |_=>none
  |_=>stE sl hp 1 a x
 | .cpy sz x y=>match ev sl x,(ev sl y).bind (rdS hp sz) with
  |some (.sl id lo len),some ys=>match lk hp id with
   |some (.arr sz' xs)=>if sz'=sz∧lo+len≤xs.length then some (.int .i64 ((min ys.length len:Nat):Int),up hp id (.arr sz (XQ xs lo (ys.take (min ys.length len))))) else none
   |_=>none
  |_,_=>none
 | .sf f xs=>match QU (ev sl) xs with
  |some ds=>(sfD f ds).map fun d=>(d,hp)
  |none=>none
 | .mkM m=>some (.mh n,up hp n (.mp m []))
 | .lkM m x k=>match ev sl x,(ev sl k).bind JR with
  |some (.mh id),some ks=>match lk hp id with
   |some (.mp m' es)=>if m'=m∧ks.length=m then some (.tup [.int .i64 (((Yi ks es).map (·.2)).getD 0),.bool (Yi ks es).isSome],hp) else none
   |_=>none
  |_,_=>none
 | .upM m x k v=>match ev sl x,(ev sl k).bind JR,ev sl v with
  |some (.mh id),some ks,some (.int .i64 y)=>match lk hp id with
   |some (.mp m' es)=>if m'=m∧ks.length=m then some (.undef,up hp id (.mp m (YH es ks y))) else none
   |_=>none
  |_,_,_=>none
 | .rgM m x=>match ev sl x with
  |some (.mh id)=>match lk hp id with
   |some (.mp m' es)=>if m'=m then some (.pt n 0,up (rm hp id) n (.it m es [])) else none
   |_=>none
  |_=>none
 | .enM x=>match ev sl x with
  |some (.pt id off)=>match lk hp id with
   |some (.it m es seen)=>match seen.getLast? with
    |some j=>match es[j]? with
     |some (k,v)=>if off=0 then some (.tup [JS k,.int .i64 v],hp) else none
     |none=>none
    |none=>none
   |_=>none
  |_=>none
 | .call ..| .callv ..| .callm ..| .isnil ..| .stf ..| .nxM _| .bad=>none
section
variable (P:Program)
def cD:Value→Option D
 | .nilFunc=>some .undef
 | .pointer none=>some .undef
 | .map none=>some .undef
 | .int k n=>some (.int k n)
 | .bool b=>some (.bool b)
 | .string s=>some (.str s)
 | .slice none 0 0=>some (.nl 0)
 |_=>none
def cX:Operand→Option X
 | .tmp t=>some (.t t)
 | .const v=>(cD v).map .k
 | .func f=>some (.k (.clo f []))
 | .global _=>none
def Xi(t:TypeId):Option Nat:=(P.info? t).map (·.size)
def Zd(t:TypeId):Option Bool:=match P.underlying t with
 |some (.struct _)|some (.array _ _)=>some true
 |some _=>some false
 |none=>none
def QmR(t:TypeId):Bool:=match P.underlying t with
 |some (.func ..)=>true
 |_=>false
def YI(t:TypeId):Option TypeId:=match P.underlying t with
 |some (.slice e)=>some e
 |_=>none
def zT:Nat→TypeId→Option (List D)
 |0,_=>none
 |n+1,t=>match P.underlying t with
  |some (.int k)=>some [.int k 0]
  |some .bool=>some [.bool false]
  |some .string=>some [.str ByteArray.empty]
  |some (.func ..)=>some [.nf]
  |some (.slice e)=>(Xi P e).map fun s=>[.nl s]
  |some (.struct fs)=>fs.toList.foldr (fun f acc=>match zT n f.type,acc with|some a,some b=>some (a++b)|_,_=>none) (some [])
  |some (.array k e)=>(zT n e).map fun a=>(List.replicate k a).flatten
  |_=>none
def QgV:D→Value→Bool
 | .int k n,.int k' m=>k==k'&&n==m
 | .bool a,.bool b=>a==b
 | .str a,.string b=>decide (a=b)
 | .nf,.nilFunc=>true
 | .nl _,.slice none 0 0=>true
 |_,_=>false
def Qau:List D→List Value→Bool
 |[],[]=>true
 |d::ds,v::vs=>QgV d v&&Qau ds vs
 |_,_=>false
def zOf(t:TypeId):Option (List D):=match zT P 8 t,(P.info? t).bind (·.zero) with
 |some z,some v=>if Qau z v.cells.toList then some z else none
 |_,_=>none
def ZX(t:TypeId):Option D:=match zOf P t,Zd P t with
 |some z,some ag=>match QU (Xl []) z with
  |some l=>ZH ag l
  |none=>none
 |_,_=>none
def Zm(g:TypeId→Option Nat):List Field→Nat→Option Nat
 |[],i=>some i
 |f::fs,i=>if f.name != "_" &&f.offset==i then match g f.type with
  |some m=>Zm g fs (i+m)
  |none=>none else none
def JT:Nat→TypeId→Option Nat
 |0,_=>none
 |k+1,t=>match P.underlying t with
  |some (.int _)=>some 1
  |some (.struct fs)=>if P.stoodInHeld t then none else match Zm (JT k) fs.toList 0 with
   |some m=>if Xi P t=some m then some m else none
   |none=>none
  |_=>none
def Ze(t:TypeId):Option Nat:=match P.underlying t with
 |some (.struct _)=>if P.eqGuardType P.depth t then none else JT P 4 t
 |_=>none
def JU(t:TypeId):Option Nat:=match P.underlying t with
 |some (.int _)=>some 1
 |_=>none
def YV(t:TypeId):Option Nat:=match P.underlying t with
 |some (.struct fs)=>if Ze P t=Zm (JU P) fs.toList 0 then Zm (JU P) fs.toList 0 else none
 |_=>none
def JV(t:TypeId)(f:Nat):Option (Nat×Nat×Bool):=match P.underlying t with
 |some (.struct fs)=>match fs[f]? with
  |some fl=>match Xi P fl.type,Zd P fl.type with
   |some n,some ag=>if n=0 then none else some (fl.offset,n,ag)
   |_,_=>none
  |none=>none
 |_=>none
def Qej(fs:Array Field):Option (List (Nat×Nat)):=fs.toList.mapM (fun f=>(P.info? f.type).map fun i=>(f.offset,i.size))
def cPs:List (Nat×Operand)→Option (List (Nat×X))
 |[]=>some []
 |(i,x)::l=>match cX x,cPs l with
  |some y,some m=>some ((i,y)::m)
  |_,_=>none
def cFs(t:TypeId):List (Nat×X)→Option (List (Nat×Nat×X))
 |[]=>some []
 |(i,x)::l=>match JV P t i,cFs t l with
  |some (off,n,_),some m=>some ((off,n,x)::m)
  |_,_=>none
def Zf:Option Operand→Option (Option X)
 |none=>some none
 |some x=>(cX x).map some
def Qek:Operand→Operand→Bool
 | .tmp a,.tmp b=>a==b
 | .const (.int .i64 a),.const (.int .i64 b)=>a==b
 |_,_=>false
def ZI(op:BinOp)(t:TypeId)(x y:Operand):Option LOp:=match P.underlying t,cX x,cX y with
  |some (.int _),some x,some y=>some (.bin op x y)
  |some .bool,some x,some y=>match op with
   | .eql=>some (.eqB false x y)
   | .neq=>some (.eqB true x y)
   |_=>none
  |some .string,some x,some y=>match op with
   | .eql=>some (.sf .eql [x,y])
   | .neq=>some (.sf .neq [x,y])
   | .add=>some (.sf .cat [x,y])
   |_=>none
  |some (.struct _),some x,some y=>match Ze P t,op with
   |some m,.eql=>some (.eqA m false x y)
   |some m,.neq=>some (.eqA m true x y)
   |_,_=>none
  |some (.slice _),some x,some (.k (.nl 0))=>match op with
   | .eql=>some (.isnil false x)
   | .neq=>some (.isnil true x)
   |_=>none
  |_,_,_=>none
def QgW(md:Nat→List Md)(t:TypeId):Option Nat:=if (md 1000000).isEmpty then none else match YI P t with
 |some e=>match YI P e,Xi P e with
  |some _,some s=>some s
  |_,_=>none
 |none=>none
def tkT(md:Nat→List Md)(t:TypeId)(x:X):Bool:=match x with
 | .t n=>if (md (2000000+n)).isEmpty then false else match YI P t with
  |some e=>(YI P e).isNone
  |none=>false
 |_=>false
def puT(md:Nat→List Md)(t:TypeId):Bool:=if (md 1000000).isEmpty then false else match P.underlying t with
 |some (.int _)=>true
 |_=>false
def cOp(md:Nat→List Md)(o:Oper):Option LOp:=
 match o.op with
 | .move x=>(cX x).map .mov
 | .assign (.const (.slice none 0 0))=>((YI P o.type).bind (Xi P)).map fun s=>.mov (.k (.nl s))
 | .assign x=>(cX x).map .mov
 | .pick c a b=>match cX c,cX a,cX b with
  |some c,some a,some b=>some (.pick c a b)
  |_,_,_=>none
 | .alloc e=>(zOf P e).map .alloc
 | .box _ x=>(cX x).map .bx
 | .build t ps=>match P.underlying t with
  |some (.struct fs)=>match Qej P fs,zOf P t,(cPs ps.toList).bind (cFs P t) with
   |some _,some z,some l=>some (.build z l)
   |_,_,_=>none
  |some (.array _ e)=>match Xi P e,zOf P t,cPs ps.toList with
   |some m,some z,some l=>some (.build z (l.map fun p=>(p.1*m,m,p.2)))
   |_,_,_=>none
  |_=>none
 | .buildSlice t n ps=>match YI P t with
  |some e=>match Xi P e,P.info? e,ZX P e,cPs ps.toList with
   |some s,some i,some z,some l=>if s=0∨65536<n*s∨¬Ym s z then none else match QgW P md t with
    |some _=>(match n,l with
     |1,[(0,x)]=>if s=1∧0<i.bytes then some (.bsn i.bytes x) else none
     |_,_=>none)
    |none=>some (.buildSl s i.bytes z n l)
   |_,_,_,_=>none
  |none=>none
 | .load t a=>match Zd P t,Xi P t,cX a with
  |some ag,some n,some x=>if n=0 then none else if tkT P md t x=true then (if ag=false∧n=1 then some (.tk x) else none) else some (.load ag n x)
  |_,_,_=>none
 | .store t a v=>match Xi P t,cX a,cX v with
  |some n,some a,some v=>if n=0 then none else if puT P md t=true then (if n=1 then some (.pu a v) else none)
   else if QmR P t=true∧n=1 then some (.stf a v) else some (.store n a v)
  |_,_,_=>none
 | .binOp op t x y _=>ZI P op t x y
 | .unOp .not _ x=>(cX x).map .not
 | .convert s d x=>match P.underlying s,P.underlying d,cX x with
  |some (.int _),some (.int k),some x=>some (.conv k x)
  |_,_,_=>none
 | .makeFunc (.func f) first caps=>if first.isEmpty then (QU cX caps.toList).map (.mkf f) else none
 | .makeSlice t l c=>if Qek l c then (match YI P t with
  |some e=>match Xi P e,P.info? e,ZX P e,cX l with
   |some s,some i,some z,some l=>if s=0∨¬Ym s z then none else some (.makeSl s i.bytes z l)
   |_,_,_,_=>none
  |none=>none) else none
 | .slice t x lo hi none=>match P.underlying t with
  |some .string=>match cX x,Zf lo,Zf hi with
   |some x,some (some l),some (some h)=>some (.sf (.sli true true) [x,l,h])
   |some x,some (some l),some none=>some (.sf (.sli true false) [x,l])
   |some x,some none,some (some h)=>some (.sf (.sli false true) [x,h])
   |_,_,_=>none
  |_=>match (YI P t).bind (Xi P),cX x,Zf lo,Zf hi with
   |some s,some x,some lo,some hi=>some (.slc s x lo hi)
   |_,_,_,_=>none
 | .fieldAddr t x f=>match JV P t f,cX x with
  |some (off,_,_),some x=>some (.fad off x)
  |_,_=>none
 | .field t x f=>match JV P t f,cX x with
  |some (off,n,ag),some x=>some (.fld ag off n x)
  |_,_=>none
 | .indexAddr t x i=>match P.underlying t,cX x,cX i with
  |some (.slice e),some x,some i=>(Xi P e).bind fun s=>if s=0 then none else some (.iad s x i)
  |some (.array n e),some x,some i=>(Xi P e).bind fun s=>if n≤1∨s=0 then none else some (.iaa n s x i)
  |_,_,_=>none
 | .index t x i=>match P.underlying t,cX x,cX i with
  |some (.array n e),some x,some i=>match Xi P e,Zd P e with
   |some s,some ag=>if s=0 then none else some (.idx ag n s x i)
   |_,_=>none
  |some .string,some x,some i=>some (.sf .idx [x,i])
  |_,_,_=>none
 | .extract x i=>(cX x).map fun x=>.ext x i
 | .call c=>match c.callee with
  | .builtin .append=>match c.argTypes.toList,c.args.toList with
   |[t,u],[x,y]=>match YI P t,P.underlying u with
    |some e,some (.slice _)=>match Xi P e,P.info? e,cX x,cX y with
     |some s,some i,some x,some y=>if s=0∨i.bytes=0∨i.zero.isNone∨(i.zero.map (·.cells.size))≠some s then none else match QgW P md t with
      |some _=>if s=1 then some (.apn i.bytes x y) else none
      |none=>some (.app s i.bytes x y)
     |_,_,_,_=>none
    |some e,some (.int _)=>match Xi P e,P.info? e,ZX P e,cX x,cX y with
     |some s,some i,some z,some x,some y=>if s=0∨i.bytes=0∨¬Ym s z then none else some (.appz s i.bytes z x y)
     |_,_,_,_,_=>none
    |_,_=>none
   |_,_=>none
  | .builtin .len=>match c.argTypes.toList,c.args.toList with
   |[t],[x]=>match P.underlying t with
    |some (.slice _)=>(cX x).map .len
    |some .string=>(cX x).map fun x=>.sf .len [x]
    |_=>none
   |_,_=>none
  | .builtin .cap=>match c.argTypes.toList,c.args.toList with
   |[t],[x]=>match P.underlying t with
    |some (.slice _)=>(cX x).map .cap
    |_=>none
   |_,_=>none
  | .builtin .clear=>match c.argTypes.toList,c.args.toList with
   |[t],[x]=>match YI P t with
    |some e=>match Xi P e,ZX P e,cX x with
     |some s,some z,some x=>if s=0∨¬Ym s z then none else some (.clr s x)
     |_,_,_=>none
    |none=>none
   |_,_=>none
  | .builtin .min=>(QU cX c.args.toList).map .mn
  | .builtin .max=>(QU cX c.args.toList).map .mx
  | .value (.func f)=>(QU cX c.args.toList).map fun l=>.call f l (md f)
  | .value x=>match cX x,QU cX c.args.toList with
   |some g,some l=>if (md 1000001).isEmpty then some (.callv g l) else some (.callm g l)
   |_,_=>none
  | .builtin .copy=>match c.argTypes.toList,c.args.toList with
   |[t,_],[x,y]=>match YI P t with
    |some e=>match Xi P e,cX x,cX y with
     |some s,some x,some y=>if s=0 then none else some (.cpy s x y)
     |_,_,_=>none
    |none=>none
   |_,_=>none
  |_=>none
 | .nilCheck x=>(cX x).map (.fad 0)
 | .makeMap t none=>match P.underlying t with
  |some (.map k _)=>(YV P k).map .mkM
  |_=>none
 | .lookup t x k true=>match P.underlying t,cX x,cX k with
  |some (.map kt e),some x,some k=>match YV P kt,(P.info? e).bind (·.zero) with
   |some m,some (.int .i64 0)=>some (.lkM m x k)
   |_,_=>none
  |_,_,_=>none
 | .mapUpdate t x k v=>match P.underlying t,cX x,cX k,cX v with
  |some (.map kt _),some x,some k,some v=>(YV P kt).map fun m=>.upM m x k v
  |_,_,_,_=>none
 | .range t x=>match P.underlying t,cX x with
  |some (.map kt _),some x=>(YV P kt).map fun m=>.rgM m x
  |_,_=>none
 | .next x false=>(cX x).map .nxM
 | .entry x=>(cX x).map .enM
 |_=>none
structure Hints where
 fx:List Nat
 md:Nat→List Md
 reg:Nat→List Nat
 keep:Nat→List Nat
def QcI(ops:Array Oper):Option (Nat×Bool)→Option (Option (Nat×Bool))
 |none=>some none
 |some (j,want)=>match (ops[j]?).bind (·.dst) with
  |some t=>some (some (t,want))
  |none=>none
def cI(H:Hints)(N:Nat)(ops:Array Oper)(o:Oper):Option LI:=
 match QcI ops o.guard with
 |some g=>match o.dst with
  |some t=>if t<N∧t∉H.fx then some {dst:=some t,op:=(cOp P H.md o).getD .bad,guard:=g} else none
  |none=>some {dst:=none,op:=(cOp P H.md o).getD .bad,guard:=g}
 |_=>none
def X.slots:X→List Nat
 | .t n=>[n]
 | .k _=>[]
def LOp.xs:LOp→List X
 | .rgM _ x| .nxM x| .enM x| .tk x| .bsn _ x| .clr _ x| .mov x| .bx x| .isnil _ x| .load _ _ x| .not x| .conv _ x| .makeSl _ _ _ x| .fad _ x| .fld _ _ _ x| .len x| .cap x| .ext x _=>[x]
 | .pick c a b=>[c,a,b]
 | .alloc _| .mkM _| .bad=>[]
 | .build _ ps=>ps.map fun p=>p.2.2
 | .buildSl _ _ _ _ ps=>ps.map fun p=>p.2
 | .store _ a x| .pu a x| .stf a x=>[a,x]
 | .bin _ x y| .eqB _ x y| .eqA _ _ x y| .iad _ x y| .iaa _ _ x y| .idx _ _ _ x y| .app _ _ x y| .apn _ x y| .appz _ _ _ x y| .cpy _ x y=>[x,y]
 | .mkf _ xs| .mn xs| .mx xs| .call _ xs _| .sf _ xs=>xs
 | .lkM _ x k=>[x,k]
 | .upM _ x k v=>[x,k,v]
 | .slc _ x lo hi=>x::(lo.toList++hi.toList)
 | .callv g xs| .callm g xs=>g::xs
def LI.reads(i:LI):List Nat:=i.op.xs.flatMap X.slots++(match i.guard with|some (t,_)=>[t]|none=>[])
def LI.apart(x y:LI):Bool:=
 (match x.dst with
  |some d=>!(y.reads.contains d)&&(match y.dst with|some e=>!(d==e)|none=>true)
  |none=>true)&&
 (match y.dst with
  |some d=>!(x.reads.contains d)
  |none=>true)
def LOp.mk:LOp→Bool
 | .upM ..| .rgM ..| .nxM ..| .clr ..| .store ..| .app ..| .apn ..| .bsn ..| .call ..| .callv ..| .callm ..| .tk ..| .pu ..| .stf ..| .cpy ..=>true
 | .buildSl _ _ _ _ ps=>!ps.isEmpty
 |_=>false
def LOp.rk:LOp→Bool
 | .lkM ..| .enM ..| .load ..| .slc ..| .iad ..=>true
 |o=>o.mk
def LOp.may(x y:LOp):Bool:=(x.mk&&y.rk)||(x.rk&&y.mk)
def Qav(ms:List Nat):List Nat→Option Nat
 |[]=>some 0
 |e::es=>match ms[e]?,Qav ms es with
  |some m,some r=>some ((2 ^ e|||m)|||r)
  |_,_=>none
def Qaw:List Oper→List Nat→Option (List Nat)
 |[],ms=>some ms
 |o::os,ms=>match Qav ms ((o.after.toList.filter (Region.binds .any)).map (·.on)) with
  |some m=>Qaw os (ms++[m])
  |none=>none
def Qel(n:Nat)(f:Nat→Bool):Bool:=(List.range n).all f
def QgX(ms:List Nat)(l:List LI):Bool:=
 Qel l.length fun i=>Qel i fun j=>match ms[i]?,l[j]?,l[i]? with
  |some m,some x,some y=>m.testBit j||x.apart y
  |_,_,_=>false
def QcJ(ms:List Nat)(l:List LI)(i:Nat):List Nat:=(List.range i).filter fun j=>match ms[i]?,l[j]?,l[i]? with
 |some m,some x,some y=>!(m.testBit j)&&x.op.may y.op
 |_,_,_=>false
def LOp.det:LOp→Bool
 | .isnil ..| .callm ..| .stf ..| .nxM _=>false
 |_=>true
def LOp.ck:LOp→Bool
 | .mkM _| .rgM ..| .alloc _| .bx _| .buildSl ..| .makeSl ..| .bsn ..| .apn ..| .tk ..| .app ..| .appz ..| .call ..| .callv ..| .callm ..=>true
 |_=>false
def Qem(ms:List Nat)(l:List LI)(i:Nat):Bool:=(List.range i).any fun j=>match ms[i]?,l[j]?,l[i]? with
 |some m,some x,some y=>!(m.testBit j)&&x.op.ck&&y.op.rk
 |_,_,_=>false
def Zn(ms:List Nat)(l:List LI)(i:Nat):Option Nat×List Nat×Bool:=
 (if Qem ms l i then some (ms.getD i 0) else none,QcJ ms l i,(List.range l.length).any fun j=>(QcJ ms l j).contains i)
def QcK(ms:List Nat)(l:List LI):List (Nat×Option Nat×List Nat×Bool):=
 (List.range l.length).filterMap fun i=>match Zn ms l i with
  |(none,[],false)=>none
  |e=>some (i,e)
def Qen(ops:List Oper)(l:List LI):Option (List (Nat×Option Nat×List Nat×Bool)):=
 match Qaw ops [] with
 |some ms=>if QgX ms l&&l.all (fun x=>x.op.det) then some (QcK ms l) else none
 |none=>none
def D.hd:D→List Nat
 | .sl id _ _| .pt id _| .pe id _ _| .mh id=>[id]
 |_=>[]
def D.rch1(hp:qHp):D→List Nat
 | .pt id _=>id::(match lk hp id with|some (.box cs)=>cs.flatMap D.ids0|_=>[])
 | .agg cs=>cs.flatMap D.ids0
 |d=>d.ids0
def D.rch(hp:qHp):D→List Nat
 | .clo _ cs=>cs.flatMap (D.rch1 hp)
 |d=>d.rch1 hp
def Qeo:D→List D
 | .clo _ cs=>cs
 |_=>[]
def evL(sl:qSl)(x:X):D:=(ev sl x).getD .undef
def puI(sl:qSl)(hp:qHp)(a x:X):List Nat:=match evL sl a with
 | .pt id _=>[id]
 | .pe id _ _=>id::(id+1)::(match lk hp (id+1) with|some (.lnk j)=>[j]|_=>[])
 |_=>[]
def rdI(sl:qSl)(hp:qHp):LOp→List Nat
 | .load _ _ x| .slc _ x _ _| .iad _ x _| .clr _ x| .tk x| .bsn _ x| .lkM _ x _| .upM _ x _ _| .rgM _ x| .nxM x| .enM x=>(evL sl x).hd
 | .pu a x=>puI sl hp a x
 | .store _ a x=>match evL sl a with
  | .pt id _=>[id]
  | .pe id _ _=>id::(evL sl x).ids
  |_=>[]
 | .app _ _ x y| .apn _ x y| .cpy _ x y=>(evL sl x).hd++(evL sl y).hd
 | .buildSl _ _ _ _ ps=>ps.flatMap fun p=>(evL sl p.2).ids
 | .call _ xs _=>xs.flatMap fun x=>(evL sl x).rch hp
 | .callv g xs=>xs.flatMap (fun x=>(evL sl x).rch hp)++(Qeo (evL sl g)).flatMap (D.rch hp)
 |_=>[]
def muX(sl:qSl)(hp:qHp):List Md→List X→List Nat
 | .mp::md,x::xs=>(evL sl x).rch hp++muX sl hp md xs
 |_::md,x::xs=>(evL sl x).ids++muX sl hp md xs
 |[],xs=>xs.flatMap fun x=>(evL sl x).ids
 |_::_,[]=>[]
def muI(sl:qSl)(hp:qHp):LOp→List Nat
 | .store _ a x=>match evL sl a with
  | .pt id _=>[id]
  | .pe id _ _=>id::(evL sl x).ids
  |_=>[]
 | .app _ _ x _| .cpy _ x _| .clr _ x| .tk x| .bsn _ x| .upM _ x _ _| .rgM _ x| .nxM x=>(evL sl x).hd
 | .apn _ x y=>(evL sl x).hd++(evL sl y).hd
 | .pu a x=>puI sl hp a x
 | .buildSl _ _ _ _ ps=>ps.flatMap fun p=>(evL sl p.2).ids
 | .call _ xs md=>muX sl hp md xs
 | .callv g xs=>xs.flatMap (fun x=>(evL sl x).ids)++(Qeo (evL sl g)).flatMap D.ids
 |_=>[]
def Ja(a b:List Nat):Bool:=a.all fun x=>!(b.contains x)
def JW(log:List (Nat×List Nat×List Nat))(rd mu:List Nat)(j:Nat):Bool:=match lk log j with
 |some (rd',mu')=>Ja mu rd'&&Ja mu' rd
 |none=>false
def Qa7(n0 m id:Nat):Bool:=if id<n0 then true else m/2 ^ ((id-n0)/64)%2==1
def Qax(n0:Nat)(o:Option (Option Nat×List Nat×Bool))(log:List (Nat×List Nat×List Nat))(rd mu:List Nat):Bool:=match o with
 |none=>true
 |some (none,c,_)=>c.all (JW log rd mu)
 |some (some m,c,_)=>rd.all (Qa7 n0 m)&&c.all (JW log rd mu)
def lgE(o:Option (Option Nat×List Nat×Bool)):Bool:=match o with
 |some (_,_,b)=>b
 |none=>false
def Qa8:Code→Nat
 | .region id _ _=>id
 | .seq a _=>Qa8 a
 | .block _ a=>Qa8 a
 |_=>0
def cC(H:Hints)(N:Nat):Code→Option LC
 | .skip=>some .skip
 | .ret=>some .ret
 | .exit id=>some (.exit id)
 | .seq a b=>match cC H N a,cC H N b with
  |some a,some b=>some (.seq a b)
  |_,_=>none
 | .region id ops draw=>match QU (cI P H N ops) ops.toList with
  |some l=>if draw then (Qen ops.toList l).map fun c=>.dreg c l (H.reg id) else some (.reg l (H.reg id))
  |none=>none
 | .cond c a b=>match cX c,cC H N a,cC H N b with
  |some c,some a,some b=>some (.cond c a b)
  |_,_,_=>none
 | .block id a=>(cC H N a).map (.block id)
 | .loop a=>(cC H N a).map (.loop (H.keep (Qa8 a)))
 |_=>none
end
structure NS where
 m:List (Nat×Nat)
 e:qHp
 k:Nat
def XG(hp:qHp)(n:NS):D→D×NS
 | .sl id lo len=>match lk n.m id with
  |some j=>(.sl j lo len,n)
  |none=>match lk hp id with
   |some (.box _)=>(.undef,n)
   |some (.nst sz l _)=>(.sl n.k lo len,⟨(id,n.k)::n.m,n.e++[(n.k,.nst sz l none)],n.k+1⟩)
   |some e=>(.sl n.k lo len,⟨(id,n.k)::n.m,n.e++[(n.k,e)],n.k+1⟩)
   |none=>(.undef,n)
 | .mh id=>match lk n.m id with
  |some j=>(.mh j,n)
  |none=>match lk hp id with
   |some (.mp m es)=>(.mh n.k,⟨(id,n.k)::n.m,n.e++[(n.k,.mp m es)],n.k+1⟩)
   |_=>(.undef,n)
 | .nl sz=>(.sl n.k 0 0,⟨n.m,n.e++[(n.k,.arr sz [])],n.k+1⟩)
 | .int k x=>(.int k x,n)
 | .bool b=>(.bool b,n)
 | .str b=>(.str b,n)
 | .nf=>(.nf,n)
 | .clo f cs=>if cs.all YS=true then (.clo f cs,n) else (.undef,n)
 | .lst sz xs=>(.lst sz xs,n)
 | .ref cs=>(.ref cs,n)
 |_=>(.undef,n)
def Yf(f:NS→D→D×NS):NS→List D→List D×NS
 |n,[]=>([],n)
 |n,d::ds=>((f n d).1::(Yf f (f n d).2 ds).1,(Yf f (f n d).2 ds).2)
def QcL(id off:Nat)(r:List D×NS):D×NS:=(.pt r.2.k off,⟨(id,r.2.k)::r.2.m,r.2.e++[(r.2.k,.box r.1)],r.2.k+1⟩)
def XR(hp:qHp)(n:NS):D→D×NS
 | .agg cs=>(.agg (Yf (XG hp) n cs).1,(Yf (XG hp) n cs).2)
 | .pt id off=>match lk n.m id with
  |some j=>(.pt j off,n)
  |none=>match lk hp id with
   |some (.box cs)=>QcL id off (Yf (XG hp) n cs)
   |some (.it m es seen)=>(.pt n.k off,⟨(id,n.k)::n.m,n.e++[(n.k,.it m es seen)],n.k+1⟩)
   |_=>(.undef,n)
 |d=>XG hp n d
def YW(hp:qHp)(n:NS):D→D×NS
 | .clo f cs=>(.clo f (Yf (XR hp) n cs).1,(Yf (XR hp) n cs).2)
 | .tup cs=>(.tup (Yf (XR hp) n cs).1,(Yf (XR hp) n cs).2)
 |d=>XR hp n d
def Zg(s:St):List Nat→NS→qSl×NS
 |[],n=>([],n)
 |t::l,n=>match lk s.sl t with
  |some d=>((t,(YW s.hp n d).1)::(Zg s l (YW s.hp n d).2).1,(Zg s l (YW s.hp n d).2).2)
  |none=>Zg s l n
def norm(keep:List Nat)(s:St):St:=
 {sl:=(Zg s keep ⟨[],[],0⟩).1,hp:=(Zg s keep ⟨[],[],0⟩).2.e,nx:=(Zg s keep ⟨[],[],0⟩).2.k}
def fil(keep:List Nat):qSl→qSl
 |[]=>[]
 |(t,d)::l=>if keep.contains t then (t,d)::fil keep l else fil keep l
end Go.Am
namespace Go.Am
open Go
def FC(P:Program)(f:Nat)(args:List D)(r:D)(outs:qSl):Prop:=
 (∀(vs:Array Value)(w:World),(callFunc f vs).run P w=.ok (.enter f vs) w)∧
 ∀(w:World)(I:Nat→Prop)(vs:List Value)(os:List Nat),
  (∀b,I b→b<w.heap.size∧b∉os)→os.Nodup→(∀b∈os,b<w.heap.size)→DRs w I args vs os→
  Calls P f vs.toArray w fun e w'=>∃v' os',e=.returned v'∧Stp (·∈os) w w'∧os'.Nodup∧
   (∀b∈os',(b∈os∨w.heap.size≤b)∧b<w'.heap.size)∧
   DRs w' (fun b=>(I b∨b∈os∨w.heap.size≤b)∧b∉os'∧b<w'.heap.size) (r::outs.map (·.2)) (v'::outs.map (fun o=>vs.getD o.1 undef)) os'
def D.flat0:D→Bool
 | .int ..| .bool _| .str _| .nf| .mp ..=>true
 |_=>false
def D.flatE:D→Bool
 | .agg cs=>cs.all D.flat0
 |d=>d.flat0
def D.flatA:D→Bool
 | .arr _ xs=>xs.all D.flatE
 |_=>false
def D.flat1:D→Bool
 | .arr _ xs=>xs.all D.flatE
 | .nst _ ds=>ds.all D.flatA
 |d=>d.flat0
def D.flat2:D→Bool
 | .agg cs| .box cs=>cs.all D.flat1
 |d=>d.flat1
def D.flat:D→Bool
 | .tup ds=>ds.all D.flat2
 |d=>d.flat2
def ZJ(hp:qHp):D→Option (D×qHp)
 | .nl s=>some (.nl s,hp)
 | .clo ..=>none
 | .agg cs=>X2 hp (.agg cs)
 |d=>XF hp d
def Zr(hp:qHp):Md→D→Option (D×qHp)
 | .rd,d=>some (d,hp)
 | .mp,d=>X2 hp d
 |_,d=>ZJ hp d
def Yr:qHp→List Md→List D→Option (List D×qHp)
 |hp,m::md,d::ds=>match Zr hp m d with
  |some (e,hp1)=>match Yr hp1 md ds with
   |some (l,hp2)=>some (e::l,hp2)
   |none=>none
  |none=>none
 |hp,[],ds=>some (ds,hp)
 |hp,_::_,[]=>some ([],hp)
def XL(hp:qHp):List Md→List D→Option (List D)
 | .rd::md,d::ds=>match Xz hp d,XL hp md ds with
  |some e,some l=>some (e::l)
  |_,_=>none
 |_::md,d::ds=>match XL hp md ds with
  |some l=>some (d::l)
  |none=>none
 |[],ds=>QU (Xz hp) ds
 |_::_,[]=>some []
def Zo(hp:qHp)(md:List Md)(ds:List D):Option (List D×qHp):=match md with
 |[]=>(QU (Xz hp) ds).map fun l=>(l,hp)
 |_=>match Yr hp md ds with
  |some (es,hp1)=>(XL hp1 md es).map fun l=>(l,hp1)
  |none=>none
def Xv:List Md→List D→List D
 | .rd::md,d::ds=>d::Xv md ds
 |_::md,_::ds=>Xv md ds
 |[],ds=>ds
 |_::_,[]=>[]
def XW:Nat→List Md→List Nat
 |_,[]=>[]
 |n,.mu::l=>n::XW (n+1) l
 |n,.mp::l=>n::XW (n+1) l
 |n,_::l=>XW (n+1) l
def Qa9(sz:Nat):D→Bool
 | .arr sz' _=>decide (sz'=sz)
 |_=>false
def XU:D→Bool
 | .nst sz ds=>ds.all (Qa9 sz)
 | .int ..| .bool _| .nl _| .lst ..| .ref _| .arr ..| .str _| .nf| .mp ..=>true
 | .clo _ cs=>cs.all YS
 |_=>false
def okB:D→Bool
 | .box cs=>cs.all XU
 |d=>XU d
def XK:D→Bool
 | .agg cs| .box cs=>cs.all XU
 | .clb _ cs=>cs.all okB
 |d=>XU d
def okA:D→Bool
 | .tup ds=>ds.all XK
 |d=>XK d
def JX(hp:qHp)(id:Nat):Option Nat:=match lk hp id with
 |some (.arr sz _)=>some sz
 |_=>none
def YJ:Nat→List D→List D→qHp→Option (Nat×qHp)
 |n,[],[],hp=>some (n,hp)
 |n,c::cs,b::bs,hp=>match c,b with
  | .pt id 0,.box l=>if l.all XU=true then YJ (Xa QW n l).2.2 cs bs ((id,.box (Xa QW n l).1)::((Xa QW n l).2.1++hp)) else none
  |_,_=>none
 |_,_,_,_=>none
def Yb(hp0:qHp)(ds:List D):Nat→qSl→qHp→Option (Nat×qHp)
 |n,[],hp=>some (n,hp)
 |n,(i,d)::l,hp=>match ds[i]?,d with
  |some (.sl id 0 len),.arr sz xs=>if xs.length=len∧JX hp0 id=some sz then Yb hp0 ds n l ((id,.arr sz xs)::hp) else none
  |some (.pt id 0),.box cs=>if cs.all XU=true then Yb hp0 ds (Xa QW n cs).2.2 l ((id,.box (Xa QW n cs).1)::((Xa QW n cs).2.1++hp)) else none
  |some (.clo f cs),.clb f' bs=>if f=f' then match YJ n cs bs hp with
   |some (n',hp')=>Yb hp0 ds n' l hp'
   |none=>none else none
  |_,_=>none
def ZK:D→Bool
 | .pt ..| .pe ..| .tup _| .mh _=>false
 | .clo _ cs=>cs.all YS
 |_=>true
def Zy(fz:Bool)(n:Nat)(hp0 hp:qHp)(ds:List D)(md:List Md)(r:D)(outs:qSl):Option (D×qHp):=
 if outs.map (·.1)=XW 0 md∧okA r=true then
  if !fz&&(r.flat&&outs.all (fun o=>o.2.flat)) then
   match Yb hp0 ds (XP n r).2.2 outs ((XP n r).2.1++hp) with
   |some (n',hp')=>if n'≤n+64 then some ((XP n r).1,hp') else none
   |none=>none
  else if (Xv md ds).all ZK then
   match Yb hp0 ds (XP n r).2.2 outs ((XP n r).2.1++Q9 ((Xv md ds).flatMap D.ids) hp) with
   |some (n',hp')=>if n'≤n+64 then some ((XP n r).1,hp') else none
   |none=>none
  else none
 else none
def Q5(dst:Option Nat)(d:D)(sl:qSl):qSl:=match dst with
 |some t=>up sl t d
 |none=>sl
def kon{α:Type}(o:Option α)(f:α→Prop):Prop:=match o with
 |some a=>f a
 |none=>False
def Ju(o:Option D)(a b:Prop):Prop:=match o with
 |some (.bool t)=>(t=true→a)∧(t=false→b)
 |_=>False
def Zh(o:Option D)(a b s:Prop):Prop:=match o with
 |some (.bool t)=>(t=true→a)∧(t=false→b)
 |some .undef=>s
 |_=>False
theorem QgY{o:Option D}{a b s a' b' s':Prop}(h1:a→a')(h2:b→b')(h3:s→s')(h:Zh o a b s):Zh o a' b' s':=by
 unfold Zh at*
 split
 ·exact⟨fun e=>h1 (h.1 e),fun e=>h2 (h.2 e)⟩
 ·exact h3 h
 ·rename_i x1 x2
  split at h
  ·exact absurd rfl (x1 _)
  ·exact absurd rfl x2
  ·exact h
def QcM(P:Program)(f:Nat)(args:List D)(F:Bool×D×qSl→Prop):Prop:=∃fz r outs,FC P f args r outs∧F (fz,r,outs)
def Jv:D→Option (Nat×List D)
 | .clo f caps=>some (f,caps)
 |_=>none
def YX(P:Program)(n:Nat)(hp:qHp)(f:Nat)(ds:List D)(md:List Md)(K:D×qHp→Prop):Prop:=
 kon (Zo hp md ds) fun p=>QcM P f p.1 fun q=>kon (Zy q.1 n hp p.2 ds md q.2.1 q.2.2) K
def QcN:D→Option (Prop×Prop)
 | .nl _=>some (True,False)
 | .lst _ xs=>some (xs=[],True)
 | .sl _ _ len=>some (len=0,True)
 |_=>none
def QbK(hp:qHp):D→Option (D×qHp)
 | .pt id off=>match lk hp id with
  |some (.box cs)=>if off=0∧cs.all YS=true then some (.ref cs,rm hp id) else none
  |_=>none
 |d=>if YS d=true then some (d,hp) else none
def Qep(sl:qSl)(hp:qHp)(a x:X):Option (qHp):=match ev sl a,ev sl x with
 |some (.pt id off),some (.clo f cs)=>match XO QbK hp cs with
  |some (es,hp1)=>match lk hp1 id with
   |some (.box l)=>if off+1≤l.length then some (up hp1 id (.box (XQ l off [.clo f es]))) else none
   |_=>none
  |none=>none
 |_,_=>none
def nxO(sl:qSl)(hp:qHp)(x:X):Option (Nat×Nat×List (List Int×Int)×List Nat):=match ev sl x with
 |some (.pt id off)=>match lk hp id with
  |some (.it m es seen)=>if off=0 then some (id,m,es,seen) else none
  |_=>none
 |_=>none
def XX(P:Program)(n:Nat)(i:LI)(s:St)(K:St→Prop):Prop:=
 match i.op with
 | .call f xs md=>kon (QU (ev s.sl) xs) fun ds=>YX P n s.hp f ds md fun p=>K ⟨Q5 i.dst p.1 s.sl,p.2,s.nx⟩
 | .callv g xs=>kon ((ev s.sl g).bind Jv) fun c=>kon (QU (ev s.sl) xs) fun ds=>YX P n s.hp c.1 (ds++c.2) [] fun p=>K ⟨Q5 i.dst p.1 s.sl,p.2,s.nx⟩
 | .callm g xs=>kon ((ev s.sl g).bind Jv) fun c=>kon (QU (ev s.sl) xs) fun ds=>YX P n s.hp c.1 (ds++c.2) (ds.map (fun _=>Md.rd)++c.2.map fun _=>Md.mp) fun p=>K ⟨Q5 i.dst p.1 s.sl,p.2,s.nx⟩
 | .stf a x=>kon (Qep s.sl s.hp a x) fun hp'=>K ⟨Q5 i.dst .undef s.sl,hp',s.nx⟩
 | .nxM x=>kon (nxO s.sl s.hp x) fun q=>((∀j,j<q.2.2.1.length→j∈q.2.2.2)→K ⟨Q5 i.dst (.tup [.bool false]) s.sl,s.hp,s.nx⟩)∧
   ∀j k v,q.2.2.1[j]?=some (k,v)→j∉q.2.2.2→K ⟨Q5 i.dst (.tup [.bool true,JS k,.int .i64 v]) s.sl,up s.hp q.1 (.it q.2.1 q.2.2.1 (q.2.2.2++[j])),s.nx⟩
 | .isnil neg x=>kon ((ev s.sl x).bind QcN) fun q=>(q.1→K ⟨Q5 i.dst (.bool (!neg)) s.sl,s.hp,s.nx⟩)∧(q.2→K ⟨Q5 i.dst (.bool neg) s.sl,s.hp,s.nx⟩)
 |op=>kon (eff n s.sl s.hp op) fun p=>K ⟨Q5 i.dst p.1 s.sl,p.2,s.nx⟩
def YD(P:Program)(n:Nat)(i:LI)(s:St)(K:St→Prop):Prop:=
 match i.guard with
 |none=>XX P n i s K
 |some (t,true)=>Zh (lk s.sl t) (XX P n i s K) (K ⟨Q5 i.dst .undef s.sl,s.hp,s.nx⟩) (K ⟨Q5 i.dst .undef s.sl,s.hp,s.nx⟩)
 |some (t,false)=>Zh (lk s.sl t) (K ⟨Q5 i.dst .undef s.sl,s.hp,s.nx⟩) (XX P n i s K) (K ⟨Q5 i.dst .undef s.sl,s.hp,s.nx⟩)
def Jw(P:Program):List LI→Nat→St→(St→Prop)→Prop
 |[],n,s,K=>K ⟨s.sl,s.hp,n⟩
 |i::l,n,s,K=>YD P n i s fun s'=>Jw P l (n+64) s' K
def WD(P:Program)(cs:List (Nat×Option Nat×List Nat×Bool))(n0:Nat):List LI→Nat→Nat→List (Nat×List Nat×List Nat)→St→(St→Prop)→Prop
 |[],_,n,_,s,K=>K ⟨s.sl,s.hp,n⟩
 |x::l,i,n,log,s,K=>Qax n0 (lk cs i) log (rdI s.sl s.hp x.op) (muI s.sl s.hp x.op)=true∧
   YD P n x s fun s'=>WD P cs n0 l (i+1) (n+64) (if lgE (lk cs i) then (i,rdI s.sl s.hp x.op,muI s.sl s.hp x.op)::log else log) s' K
inductive LX where
 |normal
 |exit (id:Nat)
 |ret
def LX.seq(W:St→Prop)(Q:LX→St→Prop):LX→St→Prop
 | .normal,s=>W s
 | .exit i,s=>Q (.exit i) s
 | .ret,s=>Q .ret s
def LX.blk(id:Nat)(Q:LX→St→Prop):LX→St→Prop
 | .normal,s=>Q .normal s
 | .exit i,s=>if i=id then Q .normal s else Q (.exit i) s
 | .ret,s=>Q .ret s
def W(P:Program):LC→(LX→St→Prop)→St→Prop
 | .skip,Q,s=>Q .normal s
 | .ret,Q,s=>Q .ret s
 | .exit id,Q,s=>Q (.exit id) s
 | .seq a b,Q,s=>W P a (LX.seq (W P b Q) Q) s
 | .reg ops keep,Q,s=>Jw P ops s.nx s fun s'=>Q .normal ⟨fil keep s'.sl,s'.hp,s'.nx⟩
 | .dreg cs ops keep,Q,s=>WD P cs s.nx ops 0 s.nx [] s fun s'=>Q .normal ⟨fil keep s'.sl,s'.hp,s'.nx⟩
 | .cond c a b,Q,s=>Ju (ev s.sl c) (W P a Q s) (W P b Q s)
 | .block id a,Q,s=>W P a (LX.blk id Q) s
 | .loop keep a,Q,s=>∃(I:Nat→St→Prop),(∃m,I m (norm keep s))∧
   ∀m s,I m s→W P a (LX.seq (fun s'=>∃m',m'<m∧I m' (norm keep s')) Q) s
theorem ZY{α:Type}{o:Option α}{f g:α→Prop}(h:∀a,f a→g a)(hc:kon o f):kon o g:=by
 cases o
 ·exact hc
 ·exact h _ hc
theorem QmS{o:Option D}{a b a' b':Prop}(h:a→a')(k:b→b')(hc:Ju o a b):Ju o a' b':=by
 unfold Ju at*
 split
 ·exact⟨fun e=>h (hc.1 e),fun e=>k (hc.2 e)⟩
 ·rename_i h2
  split at hc
  ·rename_i h3;exact (h2 _ rfl).elim
  ·exact hc
theorem QmT{P:Program}{f:Nat}{args:List D}{F G:Bool×D×qSl→Prop}(h:∀r,F r→G r)(hc:QcM P f args F):QcM P f args G:=
 let ⟨z,r,o,h1,h2⟩:=hc;⟨z,r,o,h1,h _ h2⟩
theorem QbL{P:Program}{n:Nat}{hp:qHp}{f:Nat}{ds:List D}{md:List Md}{K K':D×qHp→Prop}(h:∀d,K d→K' d)
  (hc:YX P n hp f ds md K):YX P n hp f ds md K':=
 ZY (fun _=>QmT fun _=>ZY fun _=>h _) hc
theorem Qeq{P:Program}{n:Nat}{i:LI}{s:St}{K K':St→Prop}(h:∀s,K s→K' s)(hc:XX P n i s K):XX P n i s K':=by
 unfold XX at*
 cases hop:i.op<;>simp only[hop] at hc ⊢
 case call=>exact ZY (fun _=>QbL fun _=>h _) hc
 case callv=>exact ZY (fun _=>ZY fun _=>QbL fun _=>h _) hc
 case callm=>exact ZY (fun _=>ZY fun _=>QbL fun _=>h _) hc
 case stf=>exact ZY (fun _=>h _) hc
 case isnil=>exact ZY (fun _ hq=>⟨fun e=>h _ (hq.1 e),fun e=>h _ (hq.2 e)⟩) hc
 case nxM=>exact ZY (fun _ hq=>⟨fun e=>h _ (hq.1 e),fun j k v h1 h2=>h _ (hq.2 j k v h1 h2)⟩) hc
 all_goals exact ZY (fun _=>h _) hc
theorem QgZ{P:Program}{n:Nat}{i:LI}{s:St}{K K':St→Prop}(h:∀s,K s→K' s)(hc:YD P n i s K):YD P n i s K':=by
 unfold YD at*
 cases hg:i.guard with
 |none=>simp only[hg] at hc ⊢;exact Qeq h hc
 |some g=>
  obtain⟨t,b⟩:=g
  cases b<;>simp only[hg] at hc ⊢
  ·exact QgY (h _) (Qeq h) (h _) hc
  ·exact QgY (Qeq h) (h _) (h _) hc
theorem Qg0{P:Program}:∀{l:List LI}{n:Nat}{s:St}{K K':St→Prop},(∀s,K s→K' s)→Jw P l n s K→Jw P l n s K'
 |[],_,_,_,_,h,hc=>h _ hc
 |_::_,_,_,_,_,h,hc=>QgZ (fun _=>Qg0 h) hc
theorem Qg1{P:Program}{cs:List (Nat×Option Nat×List Nat×Bool)}{n0:Nat}:∀{l:List LI}{i n:Nat}{log:List (Nat×List Nat×List Nat)}{s:St}{K K':St→Prop},(∀s,K s→K' s)→WD P cs n0 l i n log s K→WD P cs n0 l i n log s K'
 |[],_,_,_,_,_,_,h,hc=>by simp only[WD] at*;exact h _ hc
 |_::_,_,_,_,_,_,_,h,hc=>by simp only[WD] at*;exact⟨hc.1,QgZ (fun _=>Qg1 h) hc.2⟩
theorem LX.seq_mono{V V':St→Prop}{Q Q':LX→St→Prop}(h:∀s,V s→V' s)(hq:∀e s,Q e s→Q' e s)(e:LX)(s:St)(hc:LX.seq V Q e s):LX.seq V' Q' e s:=by
 cases e
 ·exact h _ hc
 ·exact hq _ _ hc
 ·exact hq _ _ hc
theorem Jb{P:Program}:∀(c:LC){Q Q':LX→St→Prop}{s:St},(∀e s,Q e s→Q' e s)→W P c Q s→W P c Q' s
 | .skip,_,_,_,h,hc=>by simp only[W] at*;exact h _ _ hc
 | .ret,_,_,_,h,hc=>by simp only[W] at*;exact h _ _ hc
 | .exit _,_,_,_,h,hc=>by simp only[W] at*;exact h _ _ hc
 | .seq a b,_,_,_,h,hc=>by
  simp only[W] at*
  exact Jb a (LX.seq_mono (fun _=>Jb b h) h) hc
 | .reg _ _,_,_,_,h,hc=>by simp only[W] at*;exact Qg0 (fun _=>h _ _) hc
 | .dreg _ _ _,_,_,_,h,hc=>by simp only[W] at*;exact Qg1 (fun _=>h _ _) hc
 | .cond c a b,_,_,s,h,hc=>by
  simp only[W] at*
  exact QmS (Jb a h) (Jb b h) hc
 | .block i a,_,_,_,h,hc=>by
  simp only[W] at*
  refine Jb a (fun e s he=>?_) hc
  cases e
  ·exact h _ _ he
  ·simp only[LX.blk] at*
   split<;>rename_i hi<;>simp only[hi,if_true,if_false] at he<;>exact h _ _ he
  ·exact h _ _ he
 | .loop keep a,_,_,_,h,hc=>by
  simp only[W] at*
  obtain⟨I,h0,h1⟩:=hc
  exact⟨I,h0,fun m s hs=>Jb a (LX.seq_mono (fun _ h=>h) h) (h1 m s hs)⟩
def Zp:Nat→Nat→List D→qSl×qHp×Nat
 |_,n,[]=>([],[],n)
 |t,n,d::ds=>((t,(Xo n d).1)::(Zp (t+1) (Xo n d).2.2 ds).1,(Xo n d).2.1++(Zp (t+1) (Xo n d).2.2 ds).2.1,(Zp (t+1) (Xo n d).2.2 ds).2.2)
def init(args:List D):St:={sl:=(Zp 0 0 args).1,hp:=(Zp 0 0 args).2.1,nx:=(Zp 0 0 args).2.2}
inductive RV where
 |t (n:Nat)
 |c (n:Nat) (ag:Bool) (m:Nat)
def JY(s:St):RV→Option D
 | .t n=>lk s.sl n
 | .c n ag m=>match lk s.sl n with
  |some (.pt id 0)=>match lk s.hp id with
   |some (.box cs)=>Yv ag 0 m cs
   |_=>none
  |_=>none
def fin(s:St)(rs:List RV)(outs:List Nat):Option (D×qSl):=
 match QU (JY s) rs with
 |some ds=>match XO X2 s.hp (ds++(outs.filterMap fun i=>lk s.sl i)) with
  |some (l,_)=>if l.length=ds.length+outs.length then
    some (match l.take ds.length with|[d]=>d|l=>.tup l,outs.zip (l.drop ds.length)) else none
  |none=>none
 |none=>none
def Done(rs:List RV)(outs:List Nat)(r:D)(os:qSl):LX→St→Prop
 | .exit _,_=>False
 | .normal,s=>fin s rs outs=some (r,os)
 | .ret,s=>fin s rs outs=some (r,os)
def DoneF(rs:List RV)(outs:List Nat)(r:D)(os:qSl):LX→St→Prop
 | .exit _,_=>False
 | .normal,s=>fin ⟨s.sl,Q9 (s.hp.map (·.1)) s.hp,s.nx⟩ rs outs=some (r,os)
 | .ret,s=>fin ⟨s.sl,Q9 (s.hp.map (·.1)) s.hp,s.nx⟩ rs outs=some (r,os)
def Zs:D→D
 | .arr sz xs=>.lst sz xs
 |d=>d
def JZ:D→D
 | .agg cs=>.agg (cs.map Zs)
 |d=>Zs d
def frz:D→D
 | .tup ds=>.tup (ds.map JZ)
 |d=>JZ d
def Qba:Option (D×qSl)→Option (D×qSl)
 |some (r,os)=>some (frz r,os)
 |none=>none
def DoneZ(rs:List RV)(outs:List Nat)(r:D)(os:qSl):LX→St→Prop
 | .exit _,_=>False
 | .normal,s=>Qba (fin ⟨s.sl,Q9 (s.hp.map (·.1)) s.hp,s.nx⟩ rs outs)=some (r,os)
 | .ret,s=>Qba (fin ⟨s.sl,Q9 (s.hp.map (·.1)) s.hp,s.nx⟩ rs outs)=some (r,os)
def QcO(rs:List RV)(outs:List Nat)(r:D)(os:qSl)(e:LX)(s:St):Prop:=∃ids r',Done rs outs r' os e ⟨s.sl,Q9 ids s.hp,s.nx⟩∧(r'=r∨frz r'=r)
theorem Done.any{rs:List RV}{outs:List Nat}{r:D}{os:qSl}{e:LX}{s:St}(h:Done rs outs r os e s):QcO rs outs r os e s:=⟨[],r,h,.inl rfl⟩
theorem DoneF.any{rs:List RV}{outs:List Nat}{r:D}{os:qSl}{e:LX}{s:St}(h:DoneF rs outs r os e s):QcO rs outs r os e s:=⟨s.hp.map (·.1),r,by cases e<;>exact h,.inl rfl⟩
theorem DoneZ.any{rs:List RV}{outs:List Nat}{r:D}{os:qSl}{e:LX}{s:St}(h:DoneZ rs outs r os e s):QcO rs outs r os e s:=by
 have key:∀{o:Option (D×qSl)},Qba o=some (r,os)→∃r',o=some (r',os)∧frz r'=r:=fun {o} h=>by
  cases o with
  |none=>cases h
  |some p=>simp only[Qba,Qb,Qc] at h;exact⟨p.1,by rw[←h.2],h.1⟩
 cases e
 ·obtain⟨r',h1,h2⟩:=key h
  exact⟨_,r',h1,.inr h2⟩
 ·exact h.elim
 ·obtain⟨r',h1,h2⟩:=key h
  exact⟨_,r',h1,.inr h2⟩
end Go.Am
