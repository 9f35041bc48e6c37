/- Contracts and what they rest on: AmPb. -/
import Derived.Test.YtgllpjliaepbdaaGreatAmPa
import Derived.Laws.StructEq
import Derived.Laws.Entries
set_option linter.unusedVariables false
set_option linter.unusedSimpArgs false
set_option linter.unnecessarySimpa false
namespace Go.Am
open Go
section maps
variable {α:Type}
theorem Xw(l:List (Nat×α))(n m:Nat)(x:α):lk (up l n x) m=if m=n then some x else lk l m:=by
 induction l with
 |nil=>simp only[up,lk]
 |cons p l ih=>
  obtain⟨k,a⟩:=p
  simp only[up]
  by_cases h:n=k
  ·subst h;simp only[if_true,lk];split<;>rfl
  ·simp only[if_neg h,lk,ih]
   by_cases hm:m=k
   ·subst hm;simp [Ne.symm h]
   ·simp [hm]
theorem Yo(l:List (Nat×α))(n m:Nat):lk (rm l n) m=if m=n then none else lk l m:=by
 induction l with
 |nil=>simp [rm,lk]
 |cons p l ih=>
  obtain⟨k,a⟩:=p
  simp only[rm]
  by_cases h:n=k
  ·subst h;simp only[if_true,ih,lk];split<;>simp_all
  ·simp only[if_neg h,lk,ih]
   by_cases hm:m=k
   ·subst hm;simp [Ne.symm h]
   ·simp [hm]
theorem Jy(l m:List (Nat×α))(n:Nat):lk (l++m) n=(lk l n).or (lk m n):=by
 induction l with
 |nil=>simp [lk]
 |cons p l ih=>
  obtain⟨k,a⟩:=p
  simp only[List.cons_append,lk,ih]
  split<;>simp
theorem QmU(keep:List Nat)(l:qSl)(n:Nat):lk (fil keep l) n=if keep.contains n then lk l n else none:=by
 induction l with
 |nil=>simp [fil,lk]
 |cons p l ih=>
  obtain⟨k,a⟩:=p
  simp only[fil]
  by_cases hm:n=k
  ·subst hm;split<;>rename_i h<;>simp only[lk,ih,h]<;>simp
  ·split<;>simp only[lk,ih,if_neg hm]
end maps
inductive KI where
 |nil (sz:Nat)
 |arr (b sz tot:Nat)
 |box (b:Nat)
def KI.blk:KI→Option Nat
 | .nil _=>none
 | .arr b _ _=>some b
 | .box b=>some b
def Ent.owned:Ent→Bool
 | .imm ..| .lnk _=>false
 |_=>true
mutual
def MR(w:World)(I:Nat→Prop)(κ:Nat→Option KI):D→Value→Prop
 | .sl id lo len,v=>(∃sz,κ id=some (.nil sz)∧v=.slice none 0 0∧lo=0∧len=0)∨
   ∃b sz tot off cap,κ id=some (.arr b sz tot)∧v=.slice (some ⟨b,off,none⟩) len cap∧len≤cap∧cap≤maxLen∧off+cap*sz≤tot∧(0<len∨lo=0→off=lo*sz)
 | .pt id off,v=>∃b,κ id=some (.box b)∧v=.pointer (some ⟨b,off,none⟩)
 | .pe id i off,v=>∃b sz tot,κ id=some (.arr b sz tot)∧v=.pointer (some ⟨b,i*sz+off,none⟩)
 | .undef,v=>∀b,v≠.bool b
 | .agg cs,v=>∃vs,v=.agg vs∧(∀u∈vs.toList,u.oneCell'=true)∧MRs w I κ cs vs.toList
 | .tup ds,v=>∃vs,v=.tuple vs∧MRs w I κ ds vs.toList
 | .clo f cs,v=>∃vs,v=.func (.func f) #[] vs∧MRs w I κ cs vs.toList
 | .arr _ xs,v=>v=.slice none 0 0∧xs=[]
 | .box ..,_=>False
 | .nst ..,_=>False
 | .mp ..,_=>False
 | .mh id,v=>∃b,κ id=some (.box b)∧v=.map (some b)
 | .clb f cs,v=>∃vs,v=.func (.func f) #[] vs∧MRs w I κ cs vs.toList
 | .int k n,v=>v=.int k n
 | .bool b,v=>v=.bool b
 | .str b,v=>v=.string b
 | .nf,v=>v=.nilFunc
 | .nl _,v=>v=.slice none 0 0
 | .lst sz xs,v=>DR w I (.lst sz xs) v []
 | .ref cs,v=>DR w I (.ref cs) v []
def MRs(w:World)(I:Nat→Prop)(κ:Nat→Option KI):List D→List Value→Prop
 |[],vs=>vs=[]
 |d::ds,vs=>∃v vs',vs=v::vs'∧MR w I κ d v∧MRs w I κ ds vs'
end
def Kle(κ κ':Nat→Option KI):Prop:=∀id k,κ id=some k→κ' id=some k
mutual
theorem MR.mono{w w':World}{I I':Nat→Prop}{κ κ':Nat→Option KI}(k:Keep w w' I I')(hk:Kle κ κ'):
  ∀(d:D)(v:Value),MR w I κ d v→MR w' I' κ' d v
 | .sl id lo len,v,h=>by
  simp only[MR] at h ⊢
  rcases h with⟨sz,h,r⟩|⟨b,sz,tot,off,cap,h,r⟩
  ·exact .inl ⟨sz,hk _ _ h,r⟩
  ·exact .inr ⟨b,sz,tot,off,cap,hk _ _ h,r⟩
 | .pt id off,v,h=>by
  simp only[MR] at h ⊢
  obtain⟨b,h,r⟩:=h
  exact⟨b,hk _ _ h,r⟩
 | .pe id i off,v,h=>by
  simp only[MR] at h ⊢
  obtain⟨b,sz,tot,h,r⟩:=h
  exact⟨b,sz,tot,hk _ _ h,r⟩
 | .undef,_,h=>by simp only[MR] at h ⊢;exact h
 | .agg cs,v,h=>by
  simp only[MR] at h ⊢
  obtain⟨vs,h,h1,r⟩:=h
  exact⟨vs,h,h1,MRs.mono k hk cs _ r⟩
 | .tup cs,v,h=>by
  simp only[MR] at h ⊢
  obtain⟨vs,h,r⟩:=h
  exact⟨vs,h,MRs.mono k hk cs _ r⟩
 | .clo f cs,v,h=>by
  simp only[MR] at h ⊢
  obtain⟨vs,h,r⟩:=h
  exact⟨vs,h,MRs.mono k hk cs _ r⟩
 | .arr ..,_,h=>by simpa [MR] using h
 | .box ..,_,h=>by simp [MR] at h
 | .nst ..,_,h=>by simp [MR] at h
 | .mp ..,_,h=>by simp [MR] at h
 | .mh id,v,h=>by
  simp only[MR] at h ⊢
  obtain⟨b,h,r⟩:=h
  exact⟨b,hk _ _ h,r⟩
 | .clb f cs,v,h=>by
  simp only[MR] at h ⊢
  obtain⟨vs,h,r⟩:=h
  exact⟨vs,h,MRs.mono k hk cs _ r⟩
 | .int _ n,v,h=>by simpa [MR] using h
 | .bool b,v,h=>by simpa [MR] using h
 | .str b,v,h=>by simpa [MR] using h
 | .nf,v,h=>by simpa [MR] using h
 | .nl _,v,h=>by simpa [MR] using h
 | .lst sz xs,v,h=>by
  simp only[MR] at h ⊢
  exact DR.mono k _ _ _ (by simp) h
 | .ref cs,v,h=>by
  simp only[MR] at h ⊢
  exact DR.mono k _ _ _ (by simp) h
theorem MRs.mono{w w':World}{I I':Nat→Prop}{κ κ':Nat→Option KI}(k:Keep w w' I I')(hk:Kle κ κ'):
  ∀(ds:List D)(vs:List Value),MRs w I κ ds vs→MRs w' I' κ' ds vs
 |[],vs,h=>by simpa [MRs] using h
 |d::ds,vs,h=>by
  simp only[MRs] at h ⊢
  obtain⟨v,vs',hv,hd,hds⟩:=h
  exact⟨v,vs',hv,MR.mono k hk d v hd,MRs.mono k hk ds vs' hds⟩
end
mutual
theorem QbM(b:Bool):undef≠.bool b:=fun e=>by cases e
theorem MR.nb{w:World}{I:Nat→Prop}{κ:Nat→Option KI}{d:D}{v:Value}(h:MR w I κ d v)(hd:∀b,d≠.bool b):∀b,v≠.bool b:=by
 rintro b rfl
 cases d<;>simp [MR,DR] at h
 ·exact hd _ rfl
theorem MR.of_DR{w:World}{I:Nat→Prop}{κ:Nat→Option KI}:∀(d:D)(v:Value),DR w I d v []→MR w I κ d v
 | .int _ _,v,h=>by simpa [MR,DR] using h
 | .bool _,v,h=>by simpa [MR,DR] using h
 | .str _,v,h=>by simpa [MR,DR] using h
 | .nf,v,h=>by simpa [MR,DR] using h
 | .nl _,v,h=>by simpa [MR,DR] using h
 | .lst _ _,v,h=>by simpa only[MR] using h
 | .ref _,v,h=>by simpa only[MR] using h
 | .arr sz xs,v,h=>by
  simp only[DR] at h
  rcases h.2 with⟨h1,h2,_⟩|⟨b,cap,cur,e,us,_,h2,_⟩
  ·simp [MR,h1,h2]
  ·cases h2
 | .agg cs,v,h=>by
  simp only[DR] at h
  obtain⟨vs,h1,h2,h3⟩:=h
  simp only[MR]
  exact⟨vs,h1,h2,MRs.of_DRs cs _ h3⟩
 | .tup cs,v,h=>by
  simp only[DR] at h
  obtain⟨vs,h1,h3⟩:=h
  simp only[MR]
  exact⟨vs,h1,MRs.of_DRs cs _ h3⟩
 | .clo f cs,v,h=>by
  simp only[DR] at h
  obtain⟨vs,h1,h3⟩:=h
  simp only[MR]
  exact⟨vs,h1,MRs.of_DRs cs _ h3⟩
 | .clb f cs,v,h=>by
  simp only[DR] at h
  obtain⟨vs,h1,h3⟩:=h
  simp only[MR]
  exact⟨vs,h1,MRs.of_DRs cs _ h3⟩
 | .box cs,v,h=>by
  simp only[DR] at h
  obtain⟨b,cur,e,os',_,h2,_⟩:=h
  cases h2
 | .nst sz ds,v,h=>by
  simp only[DR] at h
  obtain⟨_,b,cap,cur,e,os',_,h2,_⟩:=h
  cases h2
 | .mp ..,_,h=>by
  simp only[DR] at h
  obtain⟨_,_,_,h2,_⟩:=h
  cases h2
 | .mh ..,_,h=>by simp [DR] at h
 | .sl ..,_,h=>by simp [DR] at h
 | .pt ..,_,h=>by simp [DR] at h
 | .pe ..,_,h=>by simp [DR] at h
 | .undef,_,h=>by simp [DR] at h
theorem MRs.of_DRs{w:World}{I:Nat→Prop}{κ:Nat→Option KI}:∀(ds:List D)(vs:List Value),DRs w I ds vs []→MRs w I κ ds vs
 |[],vs,h=>by simp only[DRs] at h;simp [MRs,h.1]
 |d::ds,vs,h=>by
  simp only[DRs] at h
  obtain⟨v,vs',o,o',h1,h2,h3,h4⟩:=h
  obtain⟨rfl,rfl⟩:o=[]∧o'=[]:=by simpa using h2.symm
  simp only[MRs]
  exact⟨v,vs',h1,MR.of_DR d v h3,MRs.of_DRs ds vs' h4⟩
end
def ER(w:World)(I:Nat→Prop)(κ:Nat→Option KI)(id:Nat):Ent→Prop
 | .arr sz xs=>xs.length≤QS∧((κ id=some (.nil sz)∧xs=[])∨
   ∃b tot cur e us,κ id=some (.arr b sz tot)∧w.heap[b]?=some (.cells cur e (0,0))∧tot≤cur.size∧Mem w b 0 us∧PE w I sz xs us)
 | .imm sz xs=>xs.length≤QS∧((κ id=some (.nil sz)∧xs=[])∨
   ∃b tot us,κ id=some (.arr b sz tot)∧I b∧Mem w b 0 us∧PE w I sz xs us)
 | .box cs=>∃b cur e,κ id=some (.box b)∧w.heap[b]?=some (.cells cur e (0,0))∧(∀u∈cur.toList,u.oneCell'=true)∧MRs w I κ cs cur.toList
 | .lnk _=>κ id=some (.nil 0)
 | .mp m es=>∃b arr,κ id=some (.box b)∧w.heap[b]?=some (.map arr es.length)∧arr.toList=mapE 0 es∧∀p∈es,p.1.length=m
 | .it m es seen=>∃b bm arr,κ id=some (.box b)∧w.heap[b]?=some (.mapIter (some bm) es.length seen.toArray es.length)∧I bm∧w.heap[bm]?=some (.map arr es.length)∧arr.toList=mapE 0 es∧∀p∈es,p.1.length=m
 | .nst sz l o=>l.length≤QS∧(∀i m len,o=some (i,m,len)→l[i]?=some none∧∃b tot cur e c t2 cap,κ id=some (.arr b 1 tot)∧w.heap[b]?=some (.cells cur e (0,0))∧κ m=some (.arr c sz t2)∧cur[i]?=some (Value.slice (some ⟨c,0,none⟩) len cap)∧len≤cap∧cap≤maxLen∧cap*sz≤t2)∧
   ∃b tot cur e,κ id=some (.arr b 1 tot)∧w.heap[b]?=some (.cells cur e (0,0))∧tot≤cur.size∧l.length≤tot∧
   (∀(i:Nat)(xs:List D),l[i]?=some (some xs)→∃v os,cur[i]?=some v∧DR w I (.arr sz xs) v os∧b∉os)∧
   ∀(i j:Nat)(xs ys:List D)(c p q r s:Nat),l[i]?=some (some xs)→l[j]?=some (some ys)→cur[i]?=some (Value.slice (some ⟨c,0,none⟩) p q)→cur[j]?=some (Value.slice (some ⟨c,0,none⟩) r s)→i=j
theorem Qer{w:World}{I:Nat→Prop}{κ:Nat→Option KI}{d:D}{v:Value}(h:MR w I κ d v)(hc:YS d=true):DR w I d v []:=by
 cases d<;>simp only[YS,reduceCtorEq,Bool.false_eq_true] at hc<;>simp only[MR] at h<;>first|exact h|simpa [DR] using h
theorem Qes{w:World}{I:Nat→Prop}{κ:Nat→Option KI}:∀{cs:List D}{us:List Value},MRs w I κ cs us→cs.all YS=true→DRs w I cs us []
 |[],us,h,_=>by simp only[MRs] at h;simp [DRs,h]
 |c::cs,us,h,ha=>by
  simp only[MRs] at h
  obtain⟨v,vs',rfl,hd,hds⟩:=h
  simp only[List.all_cons,Qk] at ha
  simp only[DRs]
  exact⟨v,vs',[],[],rfl,rfl,Qer hd ha.1,Qes hds ha.2⟩
theorem Qg2{w:World}{I:Nat→Prop}{κ:Nat→Option KI}:∀{cs:List D}{us:List Value},MRs w I κ cs us→cs.all YS=true→(∀u∈us,u.oneCell'=true)→PC w I cs us
 |[],us,h,_,_=>by simpa [MRs,PC] using h
 |c::cs,us,h,ha,h1=>by
  simp only[MRs] at h
  obtain⟨v,vs',rfl,hd,hds⟩:=h
  simp only[List.all_cons,Qk] at ha
  simp only[PC]
  exact⟨v,vs',rfl,h1 v (by simp),Qer hd ha.1,Qg2 hds ha.2 fun u hu=>h1 u (by simp [hu])⟩
structure Base where
 w:World
 I:Nat→Prop
 os:List Nat
 N:Nat
 fx:List Nat
 vs:List Value
def InB(w:World):Ent→KI→Nat→Prop
 | .nst _ l _,.arr b0 _ _,b=>∃(cur:Array Value) (ty:TypeId) (i:Nat) (xs:List D) (p q:Nat),w.heap[b0]?=some (.cells cur ty (0,0))∧l[i]?=some (some xs)∧cur[i]?=some (Value.slice (some ⟨b,0,none⟩) p q)
 |_,_,_=>False
def Ow(w:World)(e:Ent)(k:KI)(b:Nat):Prop:=k.blk=some b∨InB w e k b
def OB(κ:Nat→Option KI)(hp:qHp)(w:World)(id b:Nat):Prop:=
 ∃e k,lk hp id=some e∧e.owned=true∧κ id=some k∧Ow w e k b
def Zz(κ:Nat→Option KI)(hp:qHp)(w:World)(b:Nat):Prop:=∃id,OB κ hp w id b
def Ent.own1:Ent→Bool
 | .imm ..| .nst ..| .lnk _=>false
 |_=>true
theorem Ow.own1{w:World}{e:Ent}{k:KI}{b:Nat}(h:Ow w e k b)(he:e.own1=true):k.blk=some b:=by
 rcases h with h|h
 ·exact h
 ·cases e
  case nst=>cases he
  all_goals (unfold InB at h;split at h<;>first|exact h.elim|(simp_all;done))
theorem Ow.congr{w w':World}{e:Ent}{k:KI}{b:Nat}(h:Ow w' e k b)(hb:∀b0,k.blk=some b0→w'.heap[b0]?=w.heap[b0]?):Ow w e k b:=by
 rcases h with h|h
 ·exact .inl h
 ·unfold InB at h
  split at h
  ·rename_i z l b0 s t
   obtain⟨cur,ty,i,xs,p,q,h1,h2,h3⟩:=h
   exact .inr ⟨cur,ty,i,xs,p,q,by rw[←hb b0 rfl];exact h1,h2,h3⟩
  ·exact h.elim
def Im(B:Base)(κ:Nat→Option KI)(hp:qHp)(w:World)(b:Nat):Prop:=
 (B.I b∨b∈B.os∨B.w.heap.size≤b)∧b<w.heap.size∧¬Zz κ hp w b
structure RH(B:Base)(κ:Nat→Option KI)(hp:qHp)(F:Nat→Prop)(w:World):Prop where
 stp:Stp (·∈B.os) B.w w
 fr:∀id,F id→κ id=none
 ent:∀id e,lk hp id=some e→ER w (Im B κ hp w) κ id e
 own:∀b,Zz κ hp w b→(b∈B.os∨B.w.heap.size≤b)∧b<w.heap.size
 inj:∀id id' b,OB κ hp w id b→OB κ hp w id' b→id=id'
structure RS(B:Base)(κ:Nat→Option KI)(hp:qHp)(w:World)(sl:qSl)(tm:Array Value):Prop where
 size:tm.size=B.N
 sl:∀t d,lk sl t=some d→∃v,tm[t]?=some v∧MR w (Im B κ hp w) κ d v
 fx:∀t∈B.fx,tm[t]?=B.vs[t]?
structure Nxt(B:Base)(κ κ':Nat→Option KI)(hp hp':qHp)(w w':World):Prop where
 kle:Kle κ κ'
 keep:Keep w w' (Im B κ hp w) (Im B κ' hp' w')
theorem Nxt.refl(B:Base)(κ:Nat→Option KI)(hp:qHp)(w:World):Nxt B κ κ hp hp w w:=⟨fun _ _ h=>h,fun _ h=>h,fun _ _=>rfl⟩
theorem Nxt.trans{B:Base}{κ κ' κ'':Nat→Option KI}{hp hp' hp'':qHp}{w w' w'':World}(h:Nxt B κ κ' hp hp' w w')(k:Nxt B κ' κ'' hp' hp'' w' w''):Nxt B κ κ'' hp hp'' w w'':=
 ⟨fun _ _ e=>k.kle _ _ (h.kle _ _ e),fun b hb=>k.keep.mem b (h.keep.mem b hb),fun b hb=>(k.keep.same b (h.keep.mem b hb)).trans (h.keep.same b hb)⟩
theorem RS.next{B:Base}{κ κ':Nat→Option KI}{hp hp':qHp}{w w':World}{sl:qSl}{tm:Array Value}(h:RS B κ hp w sl tm)(k:Nxt B κ κ' hp hp' w w'):RS B κ' hp' w' sl tm:=
 ⟨h.size,fun t d ht=>let ⟨v,hv,hm⟩:=h.sl t d ht;⟨v,hv,hm.mono k.keep k.kle⟩,h.fx⟩
theorem RS.put{B:Base}{κ:Nat→Option KI}{hp:qHp}{w:World}{sl:qSl}{tm:Array Value}(h:RS B κ hp w sl tm){t:Nat}{d:D}{v:Value}(ht:t<B.N)(hf:t∉B.fx)
  (hm:MR w (Im B κ hp w) κ d v):RS B κ hp w (up sl t d) (tm.setIfInBounds t v):=by
 refine⟨by simp [h.size],fun t' d' h'=>?_,fun t' ht'=>?_⟩
 ·rw[Xw] at h'
  by_cases e:t'=t
  ·subst e
   simp only[if_true,Qb] at h'
   subst h'
   exact⟨v,by simp [h.size,ht],hm⟩
  ·rw[if_neg e] at h'
   obtain⟨v',hv',hm'⟩:=h.sl t' d' h'
   exact⟨v',by rw[QK (Ne.symm e)];exact hv',hm'⟩
 ·have e:t≠t':=fun e=>hf (e▸ht')
  rw[QK e]
  exact h.fx t' ht'
theorem ER.mono{w w':World}{I I':Nat→Prop}{κ κ':Nat→Option KI}{id:Nat}{e:Ent}(k:Keep w w' I I')(hk:Kle κ κ')
  (hb:e.owned=true→∀q b,κ id=some q→Ow w e q b→w'.heap[b]?=w.heap[b]?) (h:ER w I κ id e):ER w' I' κ' id e:=by
 cases e with
 |arr sz xs=>
  simp only[ER] at h ⊢
  refine⟨h.1,h.2.imp (fun⟨a,b⟩=>⟨hk _ _ a,b⟩) ?_⟩
  rintro⟨b,tot,cur,e,us,h1,h2,h3,h4,h5⟩
  have hbb:=hb rfl _ b h1 (.inl rfl)
  exact⟨b,tot,cur,e,us,hk _ _ h1,by rw[hbb];exact h2,h3,h4.mono hbb,PE.mono k _ _ _ h5⟩
 |imm sz xs=>
  simp only[ER] at h ⊢
  refine⟨h.1,h.2.imp (fun⟨a,b⟩=>⟨hk _ _ a,b⟩) ?_⟩
  rintro⟨b,tot,us,h1,h2,h4,h5⟩
  exact⟨b,tot,us,hk _ _ h1,k.mem b h2,h4.mono (k.same b h2),PE.mono k _ _ _ h5⟩
 |box cs=>
  simp only[ER] at h ⊢
  obtain⟨b,cur,e,h1,h2,h3,h4⟩:=h
  have hbb:=hb rfl _ b h1 (.inl rfl)
  exact⟨b,cur,e,hk _ _ h1,by rw[hbb];exact h2,h3,MRs.mono k hk _ _ h4⟩
 |lnk j=>simp only[ER] at h ⊢;exact hk _ _ h
 |mp m es=>
  simp only[ER] at h ⊢
  obtain⟨b,arr,h1,h2,h3⟩:=h
  exact⟨b,arr,hk _ _ h1,by rw[hb rfl _ b h1 (.inl rfl)];exact h2,h3⟩
 |it m es seen=>
  simp only[ER] at h ⊢
  obtain⟨b,bm,arr,h1,h2,h3,h4,h5⟩:=h
  exact⟨b,bm,arr,hk _ _ h1,by rw[hb rfl _ b h1 (.inl rfl)];exact h2,k.mem bm h3,by rw[k.same bm h3];exact h4,h5⟩
 |nst sz l o=>
  simp only[ER] at h ⊢
  obtain⟨h7,h8,b,tot,cur,e,h1,h2,h3,h4,h5,h6⟩:=h
  have hbb:=hb rfl _ b h1 (.inl rfl)
  refine⟨h7,fun i m len ho=>?_,b,tot,cur,e,hk _ _ h1,by rw[hbb];exact h2,h3,h4,fun i xs hi=>?_,h6⟩
  ·obtain⟨g0,b',t',cur',e',c,t2,cap,g1,g2,g3,g4⟩:=h8 i m len ho
   have hbb':=hb rfl _ b' g1 (.inl rfl)
   exact⟨g0,b',t',cur',e',c,t2,cap,hk _ _ g1,by rw[hbb'];exact g2,hk _ _ g3,g4⟩
  obtain⟨v,os,g1,g2,g3⟩:=h5 i xs hi
  refine⟨v,os,g1,DR.mono k _ _ _ (fun c hc=>?_) g2,g3⟩
  have g4:=g2
  simp only[DR] at g4
  rcases g4.2 with⟨_,_,rfl⟩|⟨c',cap,_,_,_,rfl,rfl,_⟩
  ·cases hc
  ·rw[Qm] at hc
   subst hc
   exact hb rfl _ c h1 (.inr ⟨cur,e,i,xs,_,_,h2,hi,g1⟩)
end Go.Am
namespace Go.Am
open Go
theorem Mem.nil{w:World}{b off:Nat}:Mem w b off []:=by intro j u h;simp at h
theorem Mem.append{w:World}{b off:Nat}{u v:List Value}:Mem w b off (u++v)↔Mem w b off u∧Mem w b (off+u.length) v:=by
 constructor
 ·intro h
  refine⟨fun j x hj=>h j x ?_,fun j x hj=>?_⟩
  ·rw[Qz (Qp.1 hj).1];exact hj
  ·have:=h (u.length+j) x (by rw[QE (by omega)];simpa using hj)
   rw[←QA] at this;exact this
 ·rintro⟨h1,h2⟩ j x hj
  by_cases hlt:j<u.length
  ·rw[Qz hlt] at hj;exact h1 j x hj
  ·rw[QE (by omega)] at hj
   have:=h2 _ x hj
   have e:off+u.length+(j-u.length)=off+j:=by omega
   rw[e] at this;exact this
theorem Mem.of_cells{w:World}{b:Nat}{cur:Array Value}{e:TypeId}{fr:Nat×Nat}(hg:w.heap[b]?=some (.cells cur e fr)){off:Nat}{us:List Value}(h:∀j u,us[j]?=some u→cur[off+j]?=some u):Mem w b off us:=
 fun j u hj=>by rw[cell_of_row w b _ cur e fr hg];exact h j u hj
theorem Mem.cells{w:World}{b:Nat}{cur:Array Value}{e:TypeId}{fr:Nat×Nat}(hg:w.heap[b]?=some (.cells cur e fr)){off:Nat}{us:List Value}(h:Mem w b off us)(j:Nat)(u:Value)(hj:us[j]?=some u):cur[off+j]?=some u:=by
 have:=h j u hj
 rwa [cell_of_row w b _ cur e fr hg] at this
theorem Mem.le{w:World}{b:Nat}{cur:Array Value}{e:TypeId}{fr:Nat×Nat}(hg:w.heap[b]?=some (.cells cur e fr)){off:Nat}{us:List Value}(h:Mem w b off us)(hne:0<us.length):off+us.length≤cur.size:=by
 have h1:us[us.length-1]?=some (us[us.length-1]'(by omega)):=Qn (by omega)
 have:=Mem.cells hg h _ _ h1
 have:=(QB.1 this).1
 omega
section
variable {w:World} {I:Nat→Prop}
theorem DR.lst_os{sz:Nat}{xs:List D}{v:Value}{os:List Nat}(h:DR w I (.lst sz xs) v os):os=[]:=by simp only[DR] at h;exact h.1
theorem PC.length{cs:List D}{us:List Value}(h:PC w I cs us):us.length=cs.length:=by
 induction cs generalizing us with
 |nil=>simp only[PC] at h;subst h;rfl
 |cons c cs ih=>
  simp only[PC] at h
  obtain⟨u,us',rfl,_,_,h⟩:=h
  simp [ih h]
theorem PC.one{cs:List D}{us:List Value}(h:PC w I cs us):∀u∈us,u.oneCell'=true:=by
 induction cs generalizing us with
 |nil=>simp only[PC] at h;subst h;simp
 |cons c cs ih=>
  simp only[PC] at h
  obtain⟨u,us',rfl,h1,_,h⟩:=h
  intro x hx
  rcases Qh.1 hx with rfl|hx
  ·exact h1
  ·exact ih h x hx
theorem PC.append{cs ds:List D}{us:List Value}:PC w I (cs++ds) us↔∃u v,us=u++v∧PC w I cs u∧PC w I ds v:=by
 induction cs generalizing us with
 |nil=>exact⟨fun h=>⟨[],us,rfl,by simp [PC],h⟩,by rintro⟨u,v,rfl,h,k⟩;simp only[PC] at h;subst h;exact k⟩
 |cons c cs ih=>
  simp only[List.cons_append,PC]
  constructor
  ·rintro⟨u,us',rfl,h1,h2,h3⟩
   obtain⟨u',v,rfl,h4,h5⟩:=ih.1 h3
   exact⟨u::u',v,rfl,⟨u,u',rfl,h1,h2,h4⟩,h5⟩
  ·rintro⟨u,v,rfl,⟨u',us',rfl,h1,h2,h3⟩,h4⟩
   exact⟨u',us'++v,rfl,h1,h2,ih.2 ⟨us',v,rfl,h3,h4⟩⟩
theorem PC.take{cs:List D}{us:List Value}(n:Nat)(h:PC w I cs us):PC w I (cs.take n) (us.take n):=by
 have e:=h
 rw[←List.take_append_drop n cs] at e
 obtain⟨u,v,rfl,h1,h2⟩:=PC.append.1 e
 have hl:=h1.length
 by_cases hn:n≤cs.length
 ·have:u.length=n:=by rw[hl];simp;omega
  subst this;simpa using h1
 ·have e2:cs.drop n=[]:=by simp;omega
  rw[e2] at h2;simp only[PC] at h2;subst h2
  have:u.length≤n:=by rw[hl];simp;omega
  simpa [Qq this] using h1
theorem PC.drop{cs:List D}{us:List Value}(n:Nat)(h:PC w I cs us):PC w I (cs.drop n) (us.drop n):=by
 have e:=h
 rw[←List.take_append_drop n cs] at e
 obtain⟨u,v,rfl,h1,h2⟩:=PC.append.1 e
 have hl:=h1.length
 by_cases hn:n≤cs.length
 ·have:u.length=n:=by rw[hl];simp;omega
  subst this;simpa using h2
 ·have e2:cs.drop n=[]:=by simp;omega
  rw[e2] at h2 ⊢;simp only[PC] at h2;subst h2
  have:u.length≤n:=by rw[hl];simp;omega
  simp [PC,this]
theorem PE.length{sz:Nat}{xs:List D}{us:List Value}(h:PE w I sz xs us):us.length=xs.length*sz:=by
 induction xs generalizing us with
 |nil=>simp only[PE] at h;subst h;simp
 |cons c cs ih=>
  simp only[PE] at h
  obtain⟨u,us',rfl,h1,_,h⟩:=h
  simp [ih h,h1,Nat.succ_mul];omega
theorem PE.append{sz:Nat}{xs ys:List D}{us:List Value}:PE w I sz (xs++ys) us↔∃u v,us=u++v∧PE w I sz xs u∧PE w I sz ys v:=by
 induction xs generalizing us with
 |nil=>exact⟨fun h=>⟨[],us,rfl,by simp [PE],h⟩,by rintro⟨u,v,rfl,h,k⟩;simp only[PE] at h;subst h;exact k⟩
 |cons c cs ih=>
  simp only[List.cons_append,PE]
  constructor
  ·rintro⟨u,us',rfl,h1,h2,h3⟩
   obtain⟨u',v,rfl,h4,h5⟩:=ih.1 h3
   exact⟨u++u',v,by simp,⟨u,u',rfl,h1,h2,h4⟩,h5⟩
  ·rintro⟨u,v,rfl,⟨u',us',rfl,h1,h2,h3⟩,h4⟩
   exact⟨u',us'++v,by simp,h1,h2,ih.2 ⟨us',v,rfl,h3,h4⟩⟩
theorem PE.get{sz:Nat}{xs:List D}{us:List Value}(h:PE w I sz xs us){i:Nat}{x:D}(hx:xs[i]?=some x):
  ∃a u b,us=a++(u++b)∧a.length=i*sz∧u.length=sz∧P1 w I x u∧PE w I sz (xs.take i) a∧PE w I sz (xs.drop (i+1)) b:=by
 have hi:=(Qp.1 hx).1
 have e:xs=xs.take i++x::xs.drop (i+1):=by
  rw[(Qp.1 hx).2.symm];simp
 rw[e] at h
 obtain⟨a,r,rfl,h1,h2⟩:=PE.append.1 h
 simp only[PE] at h2
 obtain⟨u,b,rfl,h3,h4,h5⟩:=h2
 exact⟨a,u,b,rfl,by rw[h1.length,Qo,Nat.min_eq_left (by omega)],h3,h4,h1,h5⟩
theorem P1.one{x:D}{us:List Value}(h:P1 w I x us):∀u∈us,u.oneCell'=true:=by
 cases x<;>simp only[P1] at h
 ·subst h;simp [Value.oneCell']
 ·subst h;simp [Value.oneCell']
 ·subst h;simp [Value.oneCell']
 ·obtain⟨u,rfl,h1,_⟩:=h;simpa using h1
 ·exact h.one
theorem PE.one{sz:Nat}{xs:List D}{us:List Value}(h:PE w I sz xs us):∀u∈us,u.oneCell'=true:=by
 induction xs generalizing us with
 |nil=>simp only[PE] at h;subst h;simp
 |cons c cs ih=>
  simp only[PE] at h
  obtain⟨u,us',rfl,h1,h2,h⟩:=h
  intro x hx
  rcases Qd.1 hx with hx|hx
  ·exact h2.one x hx
  ·exact ih h x hx
theorem PE.take{sz:Nat}{xs:List D}{us:List Value}(n:Nat)(h:PE w I sz xs us):∃u v,us=u++v∧PE w I sz (xs.take n) u∧PE w I sz (xs.drop n) v:=by
 rw[←List.take_append_drop n xs] at h
 exact PE.append.1 h
theorem P1.cells{x:D}{us:List Value}(h:P1 w I x us):PC w I x.cells us:=by
 cases x<;>simp only[P1] at h<;>simp only[D.cells,PC]
 ·subst h;exact⟨_,_,rfl,rfl,by simp [DR],rfl⟩
 ·subst h;exact⟨_,_,rfl,rfl,by simp [DR],rfl⟩
 ·subst h;exact⟨_,_,rfl,rfl,by simp [DR],rfl⟩
 ·obtain⟨u,rfl,h1,h2,h3⟩:=h;exact⟨_,_,rfl,h1,by simp only[DR];exact⟨trivial,h2,h3⟩,rfl⟩
 ·exact h
theorem P1.of_cells{x:D}{us:List Value}{sz:Nat}(ho:Ym sz x=true)(h:PC w I x.cells us):P1 w I x us∧us.length=sz:=by
 have hl:=h.length
 cases x<;>simp only[Ym,Bool.false_eq_true,Qk,Ql] at ho<;>simp only[D.cells,PC] at h<;>simp only[P1]
 ·obtain⟨u,us',rfl,h1,h2,rfl⟩:=h
  simp only[DR,and_true] at h2;subst h2;exact⟨rfl,by simp [ho]⟩
 ·obtain⟨u,us',rfl,h1,h2,rfl⟩:=h
  simp only[DR,and_true] at h2;subst h2;exact⟨rfl,by simp [ho]⟩
 ·obtain⟨u,us',rfl,h1,h2,rfl⟩:=h
  simp only[DR,and_true] at h2;subst h2;exact⟨rfl,by simp [ho]⟩
 ·obtain⟨u,us',rfl,h1,h2,rfl⟩:=h
  simp only[DR] at h2;exact⟨⟨u,rfl,h1,h2.2⟩,by simp [ho]⟩
 ·exact⟨h,by rw[hl];exact ho.1⟩
theorem PE.replicate{sz:Nat}{x:D}{us:List Value}(h:P1 w I x us)(hl:us.length=sz)(n:Nat):PE w I sz (List.replicate n x) (List.replicate n us).flatten:=by
 induction n with
 |zero=>simp [PE]
 |succ n ih=>simp only[List.replicate_succ,PE,List.flatten_cons];exact⟨us,_,rfl,hl,h,ih⟩
theorem PE.set{sz:Nat}{xs:List D}{us:List Value}(h:PE w I sz xs us){i:Nat}{x y:D}(hx:xs[i]?=some x){u':List Value}(hy:P1 w I y u')(hl:u'.length=sz):
  PE w I sz (xs.set i y) (us.take (i*sz)++(u'++us.drop (i*sz+sz))):=by
 obtain⟨a,u,b,rfl,ha,hu,_,h1,h2⟩:=h.get hx
 have hi:=(Qp.1 hx).1
 have e:xs.set i y=xs.take i++y::xs.drop (i+1):=by
  rw[List.set_eq_take_append_cons_drop,if_pos hi]
 rw[e]
 refine PE.append.2 ⟨a,u'++b,?_,h1,?_⟩
 ·rw[←ha,List.take_left,show a.length+sz=(a++u).length by simp [hu],←Qx a u b,List.drop_left]
 ·simp only[PE];exact⟨u',b,rfl,hl,hy,h2⟩
theorem DRs.length{ds:List D}{vs:List Value}{os:List Nat}(h:DRs w I ds vs os):vs.length=ds.length:=by
 induction ds generalizing vs os with
 |nil=>simp only[DRs] at h;simp [h.1]
 |cons c cs ih=>
  simp only[DRs] at h
  obtain⟨v,vs',o,o',rfl,rfl,_,h⟩:=h
  simp [ih h]
theorem PC.to_DRs{ds:List D}{vs:List Value}(h:PC w I ds vs):DRs w I ds vs []:=by
 induction ds generalizing vs with
 |nil=>simp only[PC] at h;subst h;simp [DRs]
 |cons c cs ih=>
  simp only[PC] at h
  obtain⟨v,vs',rfl,h1,hd,h⟩:=h
  simp only[DRs]
  exact⟨v,vs',[],[],rfl,rfl,hd,ih h⟩
end
section
variable {w:World} {I:Nat→Prop} {κ:Nat→Option KI}
theorem MRs.length{ds:List D}{vs:List Value}(h:MRs w I κ ds vs):vs.length=ds.length:=by
 induction ds generalizing vs with
 |nil=>simp only[MRs] at h;simp [h]
 |cons c cs ih=>
  simp only[MRs] at h
  obtain⟨v,vs',rfl,_,h⟩:=h
  simp [ih h]
theorem MRs.append{cs ds:List D}{us:List Value}:MRs w I κ (cs++ds) us↔∃u v,us=u++v∧MRs w I κ cs u∧MRs w I κ ds v:=by
 induction cs generalizing us with
 |nil=>exact⟨fun h=>⟨[],us,rfl,by simp [MRs],h⟩,by rintro⟨u,v,rfl,h,k⟩;simp only[MRs] at h;subst h;exact k⟩
 |cons c cs ih=>
  simp only[List.cons_append,MRs]
  constructor
  ·rintro⟨u,us',rfl,h2,h3⟩
   obtain⟨u',v,rfl,h4,h5⟩:=ih.1 h3
   exact⟨u::u',v,rfl,⟨u,u',rfl,h2,h4⟩,h5⟩
  ·rintro⟨u,v,rfl,⟨u',us',rfl,h2,h3⟩,h4⟩
   exact⟨u',us'++v,rfl,h2,ih.2 ⟨us',v,rfl,h3,h4⟩⟩
theorem MRs.take{cs:List D}{us:List Value}(n:Nat)(h:MRs w I κ cs us):MRs w I κ (cs.take n) (us.take n)∧MRs w I κ (cs.drop n) (us.drop n):=by
 have e:=h
 rw[←List.take_append_drop n cs] at e
 obtain⟨u,v,rfl,h1,h2⟩:=MRs.append.1 e
 have hl:=h1.length
 by_cases hn:n≤cs.length
 ·have:u.length=n:=by rw[hl];simp;omega
  subst this;simpa using And.intro h1 h2
 ·have e2:cs.drop n=[]:=by simp;omega
  rw[e2] at h2;simp only[MRs] at h2;subst h2
  have:u.length≤n:=by rw[hl];simp;omega
  simp [Qq this,h1,e2,MRs,this]
theorem MRs.get{ds:List D}{vs:List Value}(h:MRs w I κ ds vs){i:Nat}{d:D}(hd:ds[i]?=some d):∃v,vs[i]?=some v∧MR w I κ d v:=by
 induction ds generalizing vs i with
 |nil=>simp at hd
 |cons c cs ih=>
  simp only[MRs] at h
  obtain⟨v,vs',rfl,hc,h⟩:=h
  cases i with
  |zero=>simp at hd;subst hd;exact⟨v,rfl,hc⟩
  |succ i=>simpa using ih h (by simpa using hd)
theorem MRs.of_PC{ds:List D}{vs:List Value}(h:PC w I ds vs):MRs w I κ ds vs:=MRs.of_DRs _ _ h.to_DRs
end
end Go.Am
namespace Go.Am
open Go
section
variable {B:Base} {κ κ':Nat→Option KI} {hp hp':qHp} {F F':Nat→Prop} {w w':World}
theorem RH.next(h:RH B κ hp F w)(hk:Kle κ κ')(hs:Stp (Zz κ hp w) w w')(hO:∀b,Zz κ' hp' w' b→Zz κ hp w b∨w.heap.size≤b)
  (hfr:∀id,F' id→κ' id=none) (hsz:∀b,Zz κ' hp' w' b→b<w'.heap.size)
  (hent:Keep w w' (Im B κ hp w) (Im B κ' hp' w')→∀id e,lk hp' id=some e→
   (lk hp id=some e∧(e.owned=true→∀q b,κ id=some q→Ow w e q b→w'.heap[b]?=w.heap[b]?))∨ER w' (Im B κ' hp' w') κ' id e)
  (hinj:∀id id' b,OB κ' hp' w' id b→OB κ' hp' w' id' b→id=id'):RH B κ' hp' F' w'∧Nxt B κ κ' hp hp' w w':=by
 have keep:Keep w w' (Im B κ hp w) (Im B κ' hp' w'):=by
  refine⟨fun b ⟨h1,h2,h3⟩=>⟨h1,QI h2 hs.size,fun ho=>?_⟩,fun b ⟨_,h2,h3⟩=>hs.block b h2 h3⟩
  rcases hO b ho with ho|ho
  ·exact h3 ho
  ·omega
 refine⟨⟨⟨?_,?_,?_,?_,?_,fun x cur e fr hg=>let ⟨c1,g1,s1⟩:=h.stp.len x cur e fr hg;let ⟨c2,g2,s2⟩:=hs.len x c1 e fr g1;⟨c2,g2,s2.trans s1⟩⟩,hfr,?_,?_,hinj⟩,⟨hk,keep⟩⟩
 ·exact hs.os.trans h.stp.os
 ·exact hs.tape.trans h.stp.tape
 ·exact hs.output.trans h.stp.output
 ·exact Qt h.stp.size hs.size
 ·intro b hb hno
  refine (hs.block b (QI hb h.stp.size) (fun ho=>?_)).trans (h.stp.block b hb hno)
  rcases (h.own b ho).1 with ho|ho
  ·exact hno ho
  ·omega
 ·intro id e he
  rcases hent keep id e he with⟨h1,h2⟩|h1
  ·exact (h.ent id e h1).mono keep hk h2
  ·exact h1
 ·intro b ho
  refine⟨?_,hsz b ho⟩
  rcases hO b ho with ho|ho
  ·exact (h.own b ho).1
  ·exact .inr (Qt h.stp.size ho)
theorem RH.place(h:RH B κ hp F w){id:Nat}{e:Ent}(he:lk hp id=some e):∃k,κ id=some k:=by
 have:=h.ent id e he
 cases e<;>simp only[ER] at this
 ·rcases this.2 with⟨h1,_⟩|⟨b,tot,cur,e,us,h1,_⟩<;>exact⟨_,h1⟩
 ·rcases this.2 with⟨h1,_⟩|⟨b,tot,us,h1,_⟩<;>exact⟨_,h1⟩
 ·obtain⟨b,cur,e,h1,_⟩:=this;exact⟨_,h1⟩
 ·obtain⟨_,_,b,tot,cur,e,h1,_⟩:=this;exact⟨_,h1⟩
 ·exact⟨_,this⟩
 ·obtain⟨b,arr,h1,_⟩:=this;exact⟨_,h1⟩
 ·obtain⟨b,bm,arr,h1,_⟩:=this;exact⟨_,h1⟩
theorem RH.fresh(h:RH B κ hp F w){id:Nat}(hi:F id):lk hp id=none:=by
 cases he:lk hp id with
 |none=>rfl
 |some e=>obtain⟨k,hk⟩:=h.place he;rw[h.fr id hi] at hk;cases hk
theorem RH.same(h:RH B κ hp F w)(hn:∀id,F' id→F id):RH B κ hp F' w:=
 ⟨h.stp,fun id hi=>h.fr id (hn id hi),h.ent,h.own,h.inj⟩
def Xf(κ:Nat→Option KI)(n:Nat)(k:KI):Nat→Option KI:=fun id=>if id=n then some k else κ id
theorem Xe{n:Nat}{k:KI}:Xf κ n k n=some k:=by simp [Xf]
theorem XS{n:Nat}{k:KI}{id:Nat}(h:id≠n):Xf κ n k id=κ id:=by simp [Xf,h]
theorem RH.kle(h:RH B κ hp F w){m:Nat}(hm:F m)(k:KI):Kle κ (Xf κ m k):=fun id q hq=>by
 have hne:id≠m:=fun e=>by rw[e,h.fr m hm] at hq;cases hq
 rw[XS hne];exact hq
theorem RH.newNil(h:RH B κ hp F w){m:Nat}(hm:F m)(hn:∀id,F' id→F id∧id≠m)(sz:Nat):RH B (Xf κ m (.nil sz)) (up hp m (.arr sz [])) F' w∧Nxt B κ (Xf κ m (.nil sz)) hp (up hp m (.arr sz [])) w w:=by
 have hob:∀id b,OB (Xf κ m (.nil sz)) (up hp m (.arr sz [])) w id b→id≠m∧OB κ hp w id b:=by
  rintro id b ⟨e,k,h1,h2,h3,h4⟩
  rw[Xw] at h1
  by_cases e:id=m
  ·subst e;rw[Xe] at h3;cases h3;rw[if_pos rfl] at h1;cases h1;have:=h4.own1 rfl;cases this
  ·rw[if_neg e] at h1;rw[XS e] at h3;exact⟨e,_,_,h1,h2,h3,h4⟩
 refine h.next (h.kle hm _) (Stp.refl _ _) (fun b ⟨id,ho⟩=>.inl ⟨id,(hob id b ho).2⟩) (fun id hi=>?_) (fun b ⟨id,ho⟩=>(h.own b ⟨id,(hob id b ho).2⟩).2) (fun _ id e he=>?_) (fun id id' b h1 h2=>h.inj id id' b (hob _ _ h1).2 (hob _ _ h2).2)
 ·rw[XS (hn id hi).2];exact h.fr id (hn id hi).1
 ·rw[Xw] at he
  by_cases e:id=m
  ·subst e
   simp only[if_true,Qb] at he
   subst he
   exact .inr (by simp only[ER];exact⟨Nat.zero_le _,.inl ⟨Xe,trivial⟩⟩)
  ·rw[if_neg e] at he;exact .inl ⟨he,fun _ _ _ _ _=>rfl⟩
theorem RH.newO(h:RH B κ hp F w){ob:Obj}(hw:w'.heap=w.heap.push ob)(h1:w'.os=w.os)(h2:w'.tape=w.tape)(h3:w'.output=w.output∧w.drawn≤w'.drawn)
  {ki:KI} (hki:ki.blk=some w.heap.size) {m:Nat} (hm:F m) (hn:∀id,F' id→F id∧id≠m) {ent:Ent}
  (her:Keep w w' (Im B κ hp w) (Im B (Xf κ m ki) (up hp m ent) w')→w'.heap[w.heap.size]?=some ob→ER w' (Im B (Xf κ m ki) (up hp m ent) w') (Xf κ m ki) m ent) (hin:∀b,¬InB w' ent ki b:=by exact fun _ h=>False.elim h):
  RH B (Xf κ m ki) (up hp m ent) F' w'∧Nxt B κ (Xf κ m ki) hp (up hp m ent) w w':=by
 have hold:∀b,b<w.heap.size→w'.heap[b]?=w.heap[b]?:=fun b hb=>by rw[hw,Array.getElem?_push_lt hb];simp [hb]
 have hob:∀id b,OB (Xf κ m ki) (up hp m ent) w' id b→(id=m∧b=w.heap.size)∨(id≠m∧OB κ hp w id b):=by
  rintro id b ⟨e,k,h1,h2,h3,h4⟩
  rw[Xw] at h1
  by_cases e:id=m
  ·subst e;rw[Xe] at h3;cases h3;rw[if_pos rfl] at h1;cases h1
   rcases h4 with h4|h4
   ·rw[hki] at h4;cases h4;exact .inl ⟨rfl,rfl⟩
   ·exact absurd h4 (hin _)
  ·rw[if_neg e] at h1;rw[XS e] at h3
   exact .inr ⟨e,_,_,h1,h2,h3,h4.congr fun b0 hb0=>hold b0 (h.own b0 ⟨id,_,_,h1,h2,h3,.inl hb0⟩).2⟩
 have hlt:∀id b,OB κ hp w id b→b<w.heap.size:=fun id b ho=>(h.own b ⟨id,ho⟩).2
 refine h.next (h.kle hm _) ⟨h1,h2,h3.1,by rw[hw];simp,fun b hb _=>hold b hb,fun b c e fr hg=>⟨c,by rw[hold b ((QB.1 hg).1)];exact hg,rfl⟩⟩ (fun b ⟨id,ho⟩=>?_) (fun id hi=>?_) (fun b ⟨id,ho⟩=>?_) (fun keep id e he=>?_) (fun id id' b g1 g2=>?_)
 ·rcases hob id b ho with⟨_,rfl⟩|⟨_,ho⟩
  ·exact .inr (Qg _)
  ·exact .inl ⟨id,ho⟩
 ·rw[XS (hn id hi).2];exact h.fr id (hn id hi).1
 ·rw[hw];simp only[Array.size_push]
  rcases hob id b ho with⟨_,rfl⟩|⟨_,ho⟩
  ·omega
  ·have:=hlt id b ho;omega
 ·rw[Xw] at he
  by_cases e:id=m
  ·subst e
   simp only[if_true,Qb] at he
   subst he
   exact .inr (her keep (by rw[hw];simp))
  ·rw[if_neg e] at he
   exact .inl ⟨he,fun ho q b hq hb=>hold b (hlt id b ⟨_,_,he,ho,hq,hb⟩)⟩
 ·rcases hob _ _ g1 with⟨a1,a2⟩|⟨_,k1⟩<;>rcases hob _ _ g2 with⟨b1,b2⟩|⟨_,k2⟩
  ·rw[a1,b1]
  ·have:=hlt _ _ k2;omega
  ·have:=hlt _ _ k1;omega
  ·exact h.inj _ _ _ k1 k2
theorem RH.new(h:RH B κ hp F w){cur:Array Value}{ty:TypeId}(hw:w'.heap=w.heap.push (.cells cur ty))(h1:w'.os=w.os)(h2:w'.tape=w.tape)(h3:w'.output=w.output∧w.drawn≤w'.drawn)
  {ki:KI} (hki:ki.blk=some w.heap.size) {m:Nat} (hm:F m) (hn:∀id,F' id→F id∧id≠m) {ent:Ent}
  (her:Keep w w' (Im B κ hp w) (Im B (Xf κ m ki) (up hp m ent) w')→w'.heap[w.heap.size]?=some (.cells cur ty (0,0))→ER w' (Im B (Xf κ m ki) (up hp m ent) w') (Xf κ m ki) m ent) (hin:∀b,¬InB w' ent ki b:=by exact fun _ h=>False.elim h):
  RH B (Xf κ m ki) (up hp m ent) F' w'∧Nxt B κ (Xf κ m ki) hp (up hp m ent) w w':=
 h.newO hw h1 h2 h3 hki hm hn her hin
theorem RH.change(h:RH B κ hp F w){id b:Nat}(ho:OB κ hp w id b)(hs:Stp (·=b) w w')(hn:∀id,F' id→F id){ent:Ent}
  (her:Keep w w' (Im B κ hp w) (Im B κ (up hp id ent) w')→ER w' (Im B κ (up hp id ent) w') κ id ent) (hen:ent.own1=true:=by rfl):
  RH B κ (up hp id ent) F' w'∧Nxt B κ κ hp (up hp id ent) w w':=by
 obtain⟨e0,k0,g1,g2,g3,g4⟩:=ho
 have hob:∀id' b',OB κ (up hp id ent) w' id' b'→OB κ hp w id' b':=by
  rintro id' b' ⟨e,k,h1,h2,h3,h4⟩
  rw[Xw] at h1
  by_cases e:id'=id
  ·subst e;rw[if_pos rfl] at h1;cases h1;exact⟨_,_,g1,g2,h3,.inl (h4.own1 hen)⟩
  ·rw[if_neg e] at h1
   refine⟨_,_,h1,h2,h3,h4.congr fun b0 hb0=>?_⟩
   have hoo:OB κ hp w id' b0:=⟨_,_,h1,h2,h3,.inl hb0⟩
   exact hs.block b0 (h.own b0 ⟨id',hoo⟩).2 (fun hbb=>e (h.inj _ _ _ hoo (by rw[hbb];exact⟨_,_,g1,g2,g3,g4⟩)))
 refine h.next (fun _ _ h=>h) (hs.mono fun x _ hx=>⟨id,by subst hx;exact⟨_,_,g1,g2,g3,g4⟩⟩) (fun b' ⟨id',ho⟩=>.inl ⟨id',hob _ _ ho⟩) (fun id hi=>h.fr id (hn id hi)) (fun b' ⟨id',ho⟩=>QI (h.own b' ⟨id',hob _ _ ho⟩).2 hs.size) (fun keep id' e he=>?_) (fun i i' b h1 h2=>h.inj i i' b (hob _ _ h1) (hob _ _ h2))
 rw[Xw] at he
 by_cases e:id'=id
 ·subst e
  simp only[if_true,Qb] at he
  subst he
  exact .inr (her keep)
 ·rw[if_neg e] at he
  refine .inl ⟨he,fun ho q b' hq hb'=>hs.block b' (h.own b' ⟨id',_,_,he,ho,hq,hb'⟩).2 (fun hbb=>e ?_)⟩
  subst hbb
  exact h.inj _ _ _ ⟨_,_,he,ho,hq,hb'⟩ ⟨_,_,g1,g2,g3,g4⟩
theorem RH.move(h:RH B κ hp F w){id b:Nat}(ho:OB κ hp w id b)(hs:Stp (·=b) w w'){ki:KI}(hki:ki.blk=some b){m:Nat}(hm:F m)(hn:∀id,F' id→F id∧id≠m){ent:Ent}
  (her:Keep w w' (Im B κ hp w) (Im B (Xf κ m ki) (up (rm hp id) m ent) w')→ER w' (Im B (Xf κ m ki) (up (rm hp id) m ent) w') (Xf κ m ki) m ent) (hen:ent.own1=true:=by rfl):
  RH B (Xf κ m ki) (up (rm hp id) m ent) F' w'∧Nxt B κ (Xf κ m ki) hp (up (rm hp id) m ent) w w':=by
 obtain⟨e0,k0,g1,g2,g3,g4⟩:=ho
 have hob:∀id' b',OB (Xf κ m ki) (up (rm hp id) m ent) w' id' b'→(id'=m∧b'=b)∨(id'≠m∧id'≠id∧OB κ hp w id' b'):=by
  rintro id' b' ⟨e,k,h1,h2,h3,h4⟩
  rw[Xw] at h1
  by_cases e:id'=m
  ·subst e;rw[Xe] at h3;cases h3;rw[if_pos rfl] at h1;cases h1
   have h4:=h4.own1 hen
   rw[hki] at h4;cases h4;exact .inl ⟨rfl,rfl⟩
  ·rw[if_neg e,Yo] at h1
   rw[XS e] at h3
   by_cases e2:id'=id
   ·simp [e2] at h1
   ·rw[if_neg e2] at h1
    refine .inr ⟨e,e2,_,_,h1,h2,h3,h4.congr fun b0 hb0=>?_⟩
    have hoo:OB κ hp w id' b0:=⟨_,_,h1,h2,h3,.inl hb0⟩
    exact hs.block b0 (h.own b0 ⟨id',hoo⟩).2 (fun hbb=>e2 (h.inj _ _ _ hoo (by rw[hbb];exact⟨_,_,g1,g2,g3,g4⟩)))
 have hob0:OB κ hp w id b:=⟨_,_,g1,g2,g3,g4⟩
 refine h.next (h.kle hm _) (hs.mono fun x _ hx=>⟨id,by subst hx;exact hob0⟩) (fun b' ⟨id',ho⟩=>.inl ?_) (fun i hi=>?_) (fun b' ⟨id',ho⟩=>QI (h.own b' ?_).2 hs.size) (fun keep id' e he=>?_) (fun i i' b' h1 h2=>?_)
 ·rcases hob _ _ ho with⟨_,rfl⟩|⟨_,_,ho⟩
  ·exact⟨_,hob0⟩
  ·exact⟨_,ho⟩
 ·rw[XS (hn i hi).2];exact h.fr i (hn i hi).1
 ·rcases hob _ _ ho with⟨_,rfl⟩|⟨_,_,ho⟩
  ·exact⟨_,hob0⟩
  ·exact⟨_,ho⟩
 ·rw[Xw] at he
  by_cases e:id'=m
  ·subst e
   simp only[if_true,Qb] at he
   subst he
   exact .inr (her keep)
  ·rw[if_neg e,Yo] at he
   by_cases e2:id'=id
   ·simp [e2] at he
   ·rw[if_neg e2] at he
    refine .inl ⟨he,fun ho q b' hq hb'=>hs.block b' (h.own b' ⟨id',_,_,he,ho,hq,hb'⟩).2 (fun hbb=>e2 ?_)⟩
    subst hbb
    exact h.inj _ _ _ ⟨_,_,he,ho,hq,hb'⟩ hob0
 ·rcases hob _ _ h1 with⟨a1,a2⟩|⟨_,n1,k1⟩<;>rcases hob _ _ h2 with⟨b1,b2⟩|⟨_,n2,k2⟩
  ·rw[a1,b1]
  ·rw[a2] at k2;exact absurd (h.inj _ _ _ k2 hob0) n2
  ·rw[b2] at k1;exact absurd (h.inj _ _ _ k1 hob0) n1
  ·exact h.inj _ _ _ k1 k2
theorem RH.forget(h:RH B κ hp F w)(id:Nat):RH B κ (rm hp id) F w∧Nxt B κ κ hp (rm hp id) w w:=by
 have hob:∀id' b',OB κ (rm hp id) w id' b'→OB κ hp w id' b':=by
  rintro id' b' ⟨e,k,h1,r⟩
  rw[Yo] at h1
  split at h1
  ·cases h1
  ·exact⟨e,k,h1,r⟩
 refine h.next (fun _ _ h=>h) (Stp.refl _ _) (fun b ⟨i,ho⟩=>.inl ⟨i,hob _ _ ho⟩) h.fr (fun b ⟨i,ho⟩=>(h.own b ⟨i,hob _ _ ho⟩).2) (fun _ i e he=>.inl ⟨?_,fun _ _ _ _ _=>rfl⟩) (fun i i' b h1 h2=>h.inj i i' b (hob _ _ h1) (hob _ _ h2))
 rw[Yo] at he
 split at he
 ·cases he
 ·exact he
theorem Qet{sz:Nat}:∀{l:List (Option (List D))}{es:List D},Zb sz l=some es→es.length=l.length∧∀(i:Nat)(e:D),es[i]?=some e→∃xs:List D,l[i]?=some (some xs)∧e=.lst sz xs
 |[],es,h=>by
  simp only[Zb,QU,Qb] at h
  subst h
  exact⟨rfl,fun i e h=>by simp at h⟩
 |o::l,es,h=>by
  simp only[Zb,QU] at h
  split at h
  case h_2=>cases h
  rename_i e es' h1 h2
  simp only[Qb] at h
  subst h
  obtain⟨g1,g2⟩:=Qet (sz:=sz) (l:=l) h2
  refine⟨by simp [g1],fun i e' hi=>?_⟩
  cases i with
  |zero=>
   simp only[List.getElem?_cons_zero,Qb] at hi
   subst hi
   cases o with
   |none=>simp at h1
   |some xs=>simp only[Option.map_some,Qb] at h1;exact⟨xs,rfl,h1.symm⟩
  |succ i=>
   simp only[List.getElem?_cons_succ] at hi ⊢
   exact g2 i e' hi
theorem QmV{I I':Nat→Prop}{sz:Nat}{xs:List D}{v:Value}{os:List Nat}(k:Keep w w I I')(ho:∀b∈os,I' b)(h:DR w I (.arr sz xs) v os):DR w I' (.lst sz xs) v []:=by
 simp only[DR] at h ⊢
 obtain⟨h0,⟨rfl,rfl,_⟩|⟨b,cap,cur,e,us,rfl,rfl,h1,h2,h3,h4,h5,h6⟩⟩:=h
 ·exact⟨trivial,h0,.inl ⟨⟨_,rfl⟩,rfl⟩⟩
 ·exact⟨trivial,h0,.inr ⟨b,0,cap,us,rfl,h2,h3,ho b (by simp),h5,PE.mono k _ _ _ h6⟩⟩
theorem Qg3{I:Nat→Prop}:∀{es:List D}{us:List Value},es.length=us.length→(∀(i:Nat)(e:D),es[i]?=some e→∃u,us[i]?=some u∧P1 w I e [u])→PE w I 1 es us
 |[],us,hl,_=>by
  have:us=[]:=List.eq_nil_of_length_eq_zero (by simpa using hl.symm)
  simp [PE,this]
 |e::es,[],hl,_=>by simp at hl
 |e::es,u::us,hl,h=>by
  simp only[PE]
  refine⟨[u],us,rfl,rfl,?_,Qg3 (by simpa using hl) fun i e' hi=>?_⟩
  ·obtain⟨u',h1,h2⟩:=h 0 e (by simp)
   simp only[List.getElem?_cons_zero,Qb] at h1
   subst h1;exact h2
  ·have:=h (i+1) e' (by simpa using hi)
   simpa using this
theorem QmW{I:Nat→Prop}{sz:Nat}{xs:List D}{u:Value}(h:DR w I (.lst sz xs) u []):P1 w I (.lst sz xs) [u]:=by
 simp only[DR] at h
 simp only[P1]
 refine⟨u,rfl,?_,h.2⟩
 rcases h.2.2 with⟨⟨_,rfl⟩,_⟩|⟨b,off,cap,us,rfl,_⟩<;>rfl
theorem RH.nstRd(h:RH B κ hp F w){id sz:Nat}{l:List (Option (List D))}{o:Option (Nat×Nat×Nat)}(he:lk hp id=some (.nst sz l o)){es:List D}(hes:Zb sz l=some es){I:Nat→Prop}(k:Keep w w (Im B κ hp w) I)(hI:∀b,OB κ hp w id b→I b):
  es.length≤QS∧∃b tot us,κ id=some (.arr b 1 tot)∧I b∧Mem w b 0 us∧PE w I 1 es us:=by
 have hr:=h.ent id _ he
 simp only[ER] at hr
 obtain⟨h7,_,b,tot,cur,e,h1,h2,h3,h4,h5,h6⟩:=hr
 obtain⟨g1,g2⟩:=Qet hes
 refine⟨by omega,b,tot,cur.toList.take es.length,h1,hI b ⟨_,_,he,rfl,h1,.inl rfl⟩,Mem.of_cells h2 (fun j u hj=>?_),Qg3 ?_ fun i e hi=>?_⟩
 ·rw[List.getElem?_take] at hj
  split at hj
  ·simpa using hj
  ·cases hj
 ·simp;omega
 ·obtain⟨xs,hx,rfl⟩:=g2 i e hi
  obtain⟨v,os,k1,k2,k3⟩:=h5 i xs hx
  have hil:i<es.length:=(Qp.1 hi).1
  refine⟨v,by rw[List.getElem?_take,if_pos hil];simpa using k1,QmW (QmV k (fun c hc=>?_) k2)⟩
  have k4:=k2
  simp only[DR] at k4
  rcases k4.2 with⟨_,_,rfl⟩|⟨c',cap,_,_,_,rfl,rfl,_⟩
  ·cases hc
  ·rw[Qm] at hc
   subst hc
   exact hI c ⟨_,_,he,rfl,h1,.inr ⟨cur,_,i,xs,_,_,h2,hx,k1⟩⟩
theorem RH.freezeN(h:RH B κ hp F w){id sz:Nat}{l:List (Option (List D))}(he:lk hp id=some (.nst sz l none)){es:List D}(hes:Zb sz l=some es):RH B κ (up hp id (.imm 1 es)) F w∧Nxt B κ κ hp (up hp id (.imm 1 es)) w w:=by
 have hob:∀i b,OB κ (up hp id (.imm 1 es)) w i b→i≠id∧OB κ hp w i b:=by
  rintro i b ⟨e,k,h1,h2,r⟩
  rw[Xw] at h1
  split at h1
  ·cases h1;simp [Ent.owned] at h2
  ·rename_i hi;exact⟨hi,e,k,h1,h2,r⟩
 refine h.next (fun _ _ h=>h) (Stp.refl _ _) (fun b ⟨i,ho⟩=>.inl ⟨i,(hob _ _ ho).2⟩) h.fr (fun b ⟨i,ho⟩=>(h.own b ⟨i,(hob _ _ ho).2⟩).2) (fun keep i e' he'=>?_) (fun i i' b h1 h2=>h.inj i i' b (hob _ _ h1).2 (hob _ _ h2).2)
 rw[Xw] at he'
 by_cases hi:i=id
 ·subst hi
  simp only[if_true,Qb] at he'
  subst he'
  refine .inr ?_
  obtain⟨g1,b,tot,us,g2,g3,g4,g5⟩:=h.nstRd he hes keep (fun b ho=>⟨(h.own b ⟨i,ho⟩).1.elim (fun g=>.inr (.inl g)) (fun g=>.inr (.inr g)),(h.own b ⟨i,ho⟩).2,fun⟨i',ho'⟩=>by
   obtain⟨hne,ho'⟩:=hob _ _ ho'
   exact hne (h.inj _ _ _ ho' ho)⟩)
  simp only[ER]
  exact⟨g1,.inr ⟨b,tot,us,g2,g3,g4,g5⟩⟩
 ·rw[if_neg hi] at he'
  exact .inl ⟨he',fun _ _ _ _ _=>rfl⟩
theorem RH.freeze(h:RH B κ hp F w){id:Nat}{e:Ent}(he:lk hp id=some e):RH B κ (up hp id e.frozen) F w∧Nxt B κ κ hp (up hp id e.frozen) w w:=by
 cases e with
 |imm sz xs=>
  have hid:∀i,lk (up hp id (Ent.imm sz xs).frozen) i=lk hp i:=fun i=>by
   rw[Xw];split
   ·rename_i hi;subst hi;exact he.symm
   ·rfl
  have hob:∀i b,OB κ (up hp id (Ent.imm sz xs).frozen) w i b↔OB κ hp w i b:=fun i b=>by simp only[OB,hid]
  exact h.next (fun _ _ h=>h) (Stp.refl _ _) (fun b ⟨i,ho⟩=>.inl ⟨i,(hob _ _).1 ho⟩) h.fr (fun b ⟨i,ho⟩=>(h.own b ⟨i,(hob _ _).1 ho⟩).2) (fun _ i e he=>.inl ⟨by rw[hid] at he;exact he,fun _ _ _ _ _=>rfl⟩) (fun i i' b h1 h2=>h.inj i i' b ((hob _ _).1 h1) ((hob _ _).1 h2))
 |box cs=>
  have hid:∀i,lk (up hp id (Ent.box cs).frozen) i=lk hp i:=fun i=>by
   rw[Xw];split
   ·rename_i hi;subst hi;exact he.symm
   ·rfl
  have hob:∀i b,OB κ (up hp id (Ent.box cs).frozen) w i b↔OB κ hp w i b:=fun i b=>by simp only[OB,hid]
  exact h.next (fun _ _ h=>h) (Stp.refl _ _) (fun b ⟨i,ho⟩=>.inl ⟨i,(hob _ _).1 ho⟩) h.fr (fun b ⟨i,ho⟩=>(h.own b ⟨i,(hob _ _).1 ho⟩).2) (fun _ i e he=>.inl ⟨by rw[hid] at he;exact he,fun _ _ _ _ _=>rfl⟩) (fun i i' b h1 h2=>h.inj i i' b ((hob _ _).1 h1) ((hob _ _).1 h2))
 |lnk cs=>
  have hid:∀i,lk (up hp id (Ent.lnk cs).frozen) i=lk hp i:=fun i=>by
   rw[Xw];split
   ·rename_i hi;subst hi;exact he.symm
   ·rfl
  have hob:∀i b,OB κ (up hp id (Ent.lnk cs).frozen) w i b↔OB κ hp w i b:=fun i b=>by simp only[OB,hid]
  exact h.next (fun _ _ h=>h) (Stp.refl _ _) (fun b ⟨i,ho⟩=>.inl ⟨i,(hob _ _).1 ho⟩) h.fr (fun b ⟨i,ho⟩=>(h.own b ⟨i,(hob _ _).1 ho⟩).2) (fun _ i e he=>.inl ⟨by rw[hid] at he;exact he,fun _ _ _ _ _=>rfl⟩) (fun i i' b h1 h2=>h.inj i i' b ((hob _ _).1 h1) ((hob _ _).1 h2))
 |mp m cs=>
  have hid:∀i,lk (up hp id (Ent.mp m cs).frozen) i=lk hp i:=fun i=>by
   rw[Xw];split
   ·rename_i hi;subst hi;exact he.symm
   ·rfl
  have hob:∀i b,OB κ (up hp id (Ent.mp m cs).frozen) w i b↔OB κ hp w i b:=fun i b=>by simp only[OB,hid]
  exact h.next (fun _ _ h=>h) (Stp.refl _ _) (fun b ⟨i,ho⟩=>.inl ⟨i,(hob _ _).1 ho⟩) h.fr (fun b ⟨i,ho⟩=>(h.own b ⟨i,(hob _ _).1 ho⟩).2) (fun _ i e he=>.inl ⟨by rw[hid] at he;exact he,fun _ _ _ _ _=>rfl⟩) (fun i i' b h1 h2=>h.inj i i' b ((hob _ _).1 h1) ((hob _ _).1 h2))
 |it m cs seen=>
  have hid:∀i,lk (up hp id (Ent.it m cs seen).frozen) i=lk hp i:=fun i=>by
   rw[Xw];split
   ·rename_i hi;subst hi;exact he.symm
   ·rfl
  have hob:∀i b,OB κ (up hp id (Ent.it m cs seen).frozen) w i b↔OB κ hp w i b:=fun i b=>by simp only[OB,hid]
  exact h.next (fun _ _ h=>h) (Stp.refl _ _) (fun b ⟨i,ho⟩=>.inl ⟨i,(hob _ _).1 ho⟩) h.fr (fun b ⟨i,ho⟩=>(h.own b ⟨i,(hob _ _).1 ho⟩).2) (fun _ i e he=>.inl ⟨by rw[hid] at he;exact he,fun _ _ _ _ _=>rfl⟩) (fun i i' b h1 h2=>h.inj i i' b ((hob _ _).1 h1) ((hob _ _).1 h2))
 |nst sz l o=>
  by_cases hs:o=none∧∃es,Zb sz l=some es
  ·obtain⟨rfl,es,hes⟩:=hs
   have hf:(Ent.nst sz l none).frozen=.imm 1 es:=by simp only[Ent.frozen,hes]
   rw[hf]
   exact h.freezeN he hes
  have hf:(Ent.nst sz l o).frozen=.nst sz l o:=by
   cases o with
   |some _=>rfl
   |none=>
    simp only[Ent.frozen]
    cases hes:Zb sz l with
    |none=>rfl
    |some es=>exact absurd ⟨rfl,es,hes⟩ hs
  rw[hf]
  have hid:∀i,lk (up hp id (Ent.nst sz l o)) i=lk hp i:=fun i=>by
   rw[Xw];split
   ·rename_i hi;subst hi;exact he.symm
   ·rfl
  have hob:∀i b,OB κ (up hp id (Ent.nst sz l o)) w i b↔OB κ hp w i b:=fun i b=>by simp only[OB,hid]
  exact h.next (fun _ _ h=>h) (Stp.refl _ _) (fun b ⟨i,ho⟩=>.inl ⟨i,(hob _ _).1 ho⟩) h.fr (fun b ⟨i,ho⟩=>(h.own b ⟨i,(hob _ _).1 ho⟩).2) (fun _ i e he=>.inl ⟨by rw[hid] at he;exact he,fun _ _ _ _ _=>rfl⟩) (fun i i' b h1 h2=>h.inj i i' b ((hob _ _).1 h1) ((hob _ _).1 h2))
 |arr sz xs=>
  have hob:∀i b,OB κ (up hp id (Ent.arr sz xs).frozen) w i b→i≠id∧OB κ hp w i b:=by
   rintro i b ⟨e,k,h1,h2,r⟩
   rw[Xw] at h1
   split at h1
   ·cases h1;simp [Ent.frozen,Ent.owned] at h2
   ·rename_i hi;exact⟨hi,e,k,h1,h2,r⟩
  refine h.next (fun _ _ h=>h) (Stp.refl _ _) (fun b ⟨i,ho⟩=>.inl ⟨i,(hob _ _ ho).2⟩) h.fr (fun b ⟨i,ho⟩=>(h.own b ⟨i,(hob _ _ ho).2⟩).2) (fun keep i e' he'=>?_) (fun i i' b h1 h2=>h.inj i i' b (hob _ _ h1).2 (hob _ _ h2).2)
  rw[Xw] at he'
  by_cases hi:i=id
  ·subst hi
   simp only[if_true,Qb] at he'
   subst he'
   have hr:=h.ent i _ he
   simp only[ER] at hr
   refine .inr ?_
   simp only[Ent.frozen,ER]
   refine⟨hr.1,hr.2.imp id ?_⟩
   rintro⟨b,tot,cur,ty,us,g1,g2,g3,g4,g5⟩
   have ho:OB κ hp w i b:=⟨_,_,he,rfl,g1,.inl rfl⟩
   refine⟨b,tot,us,g1,⟨?_,(h.own b ⟨i,ho⟩).2,?_⟩,g4,PE.mono keep _ _ _ g5⟩
   ·rcases (h.own b ⟨i,ho⟩).1 with g|g
    ·exact .inr (.inl g)
    ·exact .inr (.inr g)
   ·rintro⟨i',ho'⟩
    obtain⟨hne,ho'⟩:=hob _ _ ho'
    exact hne (h.inj _ _ _ ho' ho)
  ·rw[if_neg hi] at he'
   exact .inl ⟨he',fun _ _ _ _ _=>rfl⟩
theorem RH.freezes(ids:List Nat):∀{hp:qHp},RH B κ hp F w→RH B κ (Q9 ids hp) F w∧Nxt B κ κ hp (Q9 ids hp) w w:=by
 induction ids with
 |nil=>exact fun h=>⟨h,Nxt.refl _ _ _ _⟩
 |cons i l ih=>
  intro hp h
  simp only[Q9]
  cases he:lk hp i with
  |none=>exact ih h
  |some e=>
   obtain⟨h1,k1⟩:=h.freeze he
   obtain⟨h2,k2⟩:=ih h1
   exact⟨h2,k1.trans k2⟩
end
end Go.Am
namespace Go.Am
open Go
section
variable {P:Program} {B:Base} {κ:Nat→Option KI} {hp hp':qHp} {F:Nat→Prop} {w:World} {sl:qSl} {tm:Array Value} {df:List Deferred} {n:Nat} {d:D}
def Res(P:Program)(B:Base)(κ:Nat→Option KI)(hp hp':qHp)(F':Nat→Prop)(w:World)(r:Result Next)(d:D):Prop:=
 ∃κ' v w',(r=.ok (.value v) w'∨(r=.ok .skip w'∧v=undef))∧RH B κ' hp' F' w'∧Nxt B κ κ' hp hp' w w'∧MR w' (Im B κ' hp' w') κ' d v
theorem Res.pure(h:RH B κ hp F w){F':Nat→Prop}(hF:∀id,F' id→F id){v:Value}{r:Result Next}(hr:r=.ok (.value v) w)(hm:MR w (Im B κ hp w) κ d v):Res P B κ hp hp F' w r d:=
 ⟨κ,v,w,.inl hr,h.same hF,Nxt.refl _ _ _ _,hm⟩
theorem QmX{v:Value}(h:cD v=some d){I:Nat→Prop}:MR w I κ d v:=by
 unfold cD at h
 split at h<;>simp only[Qb,reduceCtorEq] at h<;>subst h<;>simp [MR]
theorem Xd(hs:RS B κ hp w sl tm){xo:Operand}{x:X}(hx:cX xo=some x)(he:ev sl x=some d):MR w (Im B κ hp w) κ d (Act.eval ⟨tm,df⟩ xo):=by
 cases xo with
 |tmp t=>
  simp only[cX,Qb] at hx
  subst hx
  obtain⟨v,hv,hm⟩:=hs.sl t d he
  simpa [Act.eval,hv] using hm
 |const v=>
  simp only[cX] at hx
  cases hc:cD v with
  |none=>simp [hc] at hx
  |some e=>
   simp only[hc,Option.map_some,Qb] at hx
   subst hx
   simp only[ev,Qb] at he
   subst he
   exact QmX hc
 |func f=>
  simp only[cX,Qb] at hx
  subst hx
  simp only[ev,Qb] at he
  subst he
  simp only[MR,Act.eval]
  exact⟨#[],rfl,by simp [MRs]⟩
 |global g=>simp [cX] at hx
theorem MR.int{I:Nat→Prop}{k:IntKind}{m:Int}{v:Value}:MR w I κ (.int k m) v↔v=.int k m:=by simp only[MR]
theorem MR.bool{I:Nat→Prop}{c:Bool}{v:Value}:MR w I κ (.bool c) v↔v=.bool c:=by simp only[MR]
theorem QmY(k:IntKind)(a b:Int):(Op.intBits .and k a b).run P w=.ok (.int k (k.wrap (BitVec.ofInt k.bits a&&&BitVec.ofInt k.bits b).toNat)) w:=rfl
theorem QmZ(k:IntKind)(a b:Int):(Op.intBits .or k a b).run P w=.ok (.int k (k.wrap (BitVec.ofInt k.bits a|||BitVec.ofInt k.bits b).toNat)) w:=rfl
theorem Qm0(k:IntKind)(a b:Int):(Op.intBits .xor k a b).run P w=.ok (.int k (k.wrap (BitVec.ofInt k.bits a ^^^ BitVec.ofInt k.bits b).toNat)) w:=rfl
theorem Qm1{op:BinOp}{t:TypeId}{k:IntKind}{a b:Int}(h:Yh op k a b=some d):∃v,(binOp op t (.int k a) (.int k b)).run P w=.ok v w∧∀I,MR w I κ d v:=by
 cases op<;>simp only[Yh,Qb,reduceCtorEq] at h
 case quo=>
  split at h
  ·cases h
  ·rename_i hb;simp only[Qb] at h;subst h
   exact⟨_,by simp [binOp,Op.intDiv,hb];rfl,fun I=>by simp [MR]⟩
 case rem=>
  split at h
  ·cases h
  ·rename_i hb;simp only[Qb] at h;subst h
   exact⟨_,by simp [binOp,Op.intDiv,hb];rfl,fun I=>by simp [MR]⟩
 all_goals subst h
 case add=>exact⟨_,by simp [binOp,Op.intArith];rfl,fun I=>by simp [MR]⟩
 case sub=>exact⟨_,by simp [binOp,Op.intArith];rfl,fun I=>by simp [MR]⟩
 case mul=>exact⟨_,by simp [binOp,Op.intArith];rfl,fun I=>by simp [MR]⟩
 case and=>exact⟨_,by simp [binOp,QmY];rfl,fun I=>by simp [MR]⟩
 case or=>exact⟨_,by simp [binOp,QmZ];rfl,fun I=>by simp [MR]⟩
 case xor=>exact⟨_,by simp [binOp,Qm0];rfl,fun I=>by simp [MR]⟩
 all_goals exact⟨_,by simp [binOp,Op.intCmp];rfl,fun I=>by simp [MR];try rfl⟩
theorem Qm2{op:BinOp}{t:TypeId}{x y:Operand}{a b:D}{va vb:Value}{I:Nat→Prop}(ha:MR w I κ a va)(hb:MR w I κ b vb)(h:YT op a b=some d):
  ∃v,(do eqGuard op t x y va vb;binOp op t va vb:Sem Value).run P w=.ok v w∧∀I,MR w I κ d v:=by
 cases a<;>cases b<;>simp only[YT,reduceCtorEq] at h
 rename_i k a k' b
 simp only[MR.int] at ha hb
 subst ha;subst hb
 have hg:(eqGuard op t x y (.int k a) (.int k' b)).run P w=.ok () w:=by cases op<;>simp [eqGuard]
 simp only[Sem.run_bind,hg,Result.andThen_ok]
 cases op
 case shl=>
  simp only at h
  split at h
  ·cases h
  ·rename_i hb;simp only[Qb] at h;subst h
   exact⟨_,by simp [binOp,Op.shift,hb];rfl,fun I=>by simp [MR]⟩
 case shr=>
  simp only at h
  split at h
  ·cases h
  ·rename_i hb;simp only[Qb] at h;subst h
   exact⟨_,by simp [binOp,Op.shift,hb];rfl,fun I=>by simp [MR]⟩
 all_goals
  simp only at h
  split at h
  ·rename_i hk;subst hk;exact Qm1 h
  ·cases h
theorem Qm3{neg:Bool}{t:TypeId}(ht:P.underlying t=some .bool){x y:Operand}{a b:D}{va vb:Value}{I:Nat→Prop}(ha:MR w I κ a va)(hb:MR w I κ b vb)(h:Qa3 neg a b=some d):
  ∃v,(do eqGuard (if neg then .neq else .eql) t x y va vb;binOp (if neg then .neq else .eql) t va vb:Sem Value).run P w=.ok v w∧∀I,MR w I κ d v:=by
 cases a<;>cases b<;>simp only[Qa3,reduceCtorEq] at h
 rename_i a b
 simp only[MR.bool] at ha hb
 subst ha;subst hb
 simp only[Qb] at h
 subst h
 have hg:∀op,(eqGuard op t x y (.bool a) (.bool b)).run P w=.ok () w:=fun op=>by cases op<;>simp [eqGuard]
 simp only[Sem.run_bind,hg,Result.andThen_ok]
 have he:(Op.equal t (.bool a) (.bool b)).run P w=.ok (a==b) w:=by
  unfold Op.equal Op.maxDepth;exact run_equalIn_bool' w 9999 t a b ht
 cases neg
 ·refine⟨.bool (a==b),?_,fun I=>?_⟩
  ·simp [binOp,he]
  ·simp only[MR];cases a<;>cases b<;>rfl
 ·refine⟨.bool (!(a==b)),?_,fun I=>?_⟩
  ·simp [binOp,he]
  ·simp only[MR];cases a<;>cases b<;>rfl
theorem QcP:∀{a b:List D}{c:Bool},X3 a b=some c→a.length=b.length
 |[],[],_,_=>rfl
 |[],_::_,_,h=>by simp [X3] at h
 |a::l,[],_,h=>by cases a<;>simp [X3] at h
 |a::l,b::m,c,h=>by
  cases a<;>cases b<;>simp only[X3,reduceCtorEq] at h
  split at h
  ·cases hc:X3 l m with
   |none=>simp [hc] at h
   |some c'=>simp [QcP hc]
  ·cases h
theorem Qg4:∀{a1 b1 a2 b2:List D}{c:Bool},a1.length=b1.length→X3 (a1++a2) (b1++b2)=some c→∃c1 c2,X3 a1 b1=some c1∧X3 a2 b2=some c2∧c=(c1&&c2)
 |[],[],a2,b2,c,_,h=>⟨true,c,rfl,h,rfl⟩
 |[],_::_,_,_,_,hl,_=>by simp at hl
 |_::_,[],_,_,_,hl,_=>by simp at hl
 |a::l,b::m,a2,b2,c,hl,h=>by
  simp only[List.cons_append] at h
  cases a<;>cases b<;>simp only[X3,reduceCtorEq] at h
  split at h
  ·rename_i hk
   cases hc:X3 (l++a2) (m++b2) with
   |none=>simp [hc] at h
   |some c'=>
    simp only[hc,Option.map_some,Qb] at h
    obtain⟨c1,c2,h1,h2,h3⟩:=Qg4 (a1:=l) (b1:=m) (by simpa using hl) hc
    subst h h3
    rename_i k1 x1 k2 x2
    exact⟨decide (x1=x2)&&c1,c2,by simp only[X3,h1,if_pos hk,Option.map_some],h2,by rw[Bool.and_assoc]⟩
  ·cases h
theorem MRs.split{I:Nat→Prop}:∀{ds:List D}{vs:List Value}(m:Nat),m≤ds.length→MRs w I κ ds vs→MRs w I κ (ds.take m) (vs.take m)∧MRs w I κ (ds.drop m) (vs.drop m)
 |ds,vs,0,_,h=>by simpa [MRs] using h
 |[],vs,m+1,hm,_=>by simp at hm
 |d::ds,vs,m+1,hm,h=>by
  simp only[MRs] at h
  obtain⟨v,vs',rfl,h1,h2⟩:=h
  obtain⟨g1,g2⟩:=MRs.split m (by simpa using hm) h2
  simp only[List.take_succ_cons,List.drop_succ_cons,MRs]
  exact⟨⟨v,_,rfl,h1,g1⟩,g2⟩
theorem Qeu{t:TypeId}{m:Nat}(h:Xi P t=some m):(Go.sizeOf t).run P w=.ok m w:=by
 unfold Xi at h
 cases hi:P.info? t with
 |none=>simp [hi] at h
 |some i=>simp [hi] at h;simp [Go.sizeOf,typeInfo,hi,h]
abbrev M0(w:World)(a:List D)(vs:List Value):Prop:=MRs w (fun _=>True) (fun _=>none) a vs
theorem Qev{g:TypeId→Option Nat}:∀{fs:List Field}{i m:Nat},Zm g fs i=some m→i≤m
 |[],i,m,h=>by simp only[Zm,Qb] at h;omega
 |f::fs,i,m,h=>by
  simp only[Zm] at h
  split at h
  ·split at h
   ·have:=Qev h;omega
   ·cases h
  ·cases h
mutual
theorem Qew:∀(k:Nat)(t:TypeId)(m:Nat),JT P k t=some m→∀(dp:Nat)(a b:List D)(c:Bool)(xs ys:Array Value)(off:Nat),X3 a b=some c→a.length=m→
  M0 w a ((xs.toList.drop off).take m)→M0 w b ((ys.toList.drop off).take m)→∃u v,(part t xs off).run P w=.ok u w∧(part t ys off).run P w=.ok v w∧(Op.equalIn (dp+k) t u v).run P w=.ok c w
 |0,t,m,h=>by simp [JT] at h
 |k+1,t,m,h=>by
  intro dp a b c xs ys off hc hl hx hy
  simp only[JT] at h
  split at h
  ·rename_i kk hu
   simp only[Qb] at h
   subst h
   have hl2:=QcP hc
   obtain⟨p,rfl⟩:=List.length_eq_one_iff.1 hl
   obtain⟨q,rfl⟩:=List.length_eq_one_iff.1 (hl2.symm.trans hl)
   ·cases p<;>cases q<;>simp only[X3,reduceCtorEq] at hc
    rename_i k1 p k2 q
    split at hc
    ·rename_i hk
     subst hk
     simp only[Option.map_some,Qb,Bool.and_true] at hc
     subst hc
     simp only[M0,MRs,MR] at hx hy
     obtain⟨v,vs',hv,rfl,_⟩:=hx
     obtain⟨u,us',hu2,rfl,_⟩:=hy
     have gx:xs[off]?=some (.int k1 p):=by
      have:=congrArg (fun l=>l[0]?) hv
      simpa using this
     have gy:ys[off]?=some (.int k1 q):=by
      have:=congrArg (fun l=>l[0]?) hu2
      simpa using this
     refine⟨.int k1 p,.int k1 q,by simp [part,Go.isAgg,run_underlying hu,gx],by simp [part,Go.isAgg,run_underlying hu,gy],?_⟩
     have:=run_equalIn_int (P:=P) w (dp+k) t k1 kk p q hu
     rw[show (p==q)=decide (p=q) from rfl] at this
     exact this
    ·cases hc
  ·rename_i fs hu
   split at h
   ·cases h
   ·rename_i hst
    split at h
    ·rename_i m' hm'
     split at h
     ·rename_i hz
      simp only[Qb] at h
      subst h
      have hst:P.stoodInHeld t=false:=by simpa using hst
      have hfo:P.underlying t=some (.struct (P.fieldsOf t)):=by unfold Program.fieldsOf;simp [hu]
      have hff:(P.fieldsOf t).toList=fs.toList:=by unfold Program.fieldsOf;simp [hu]
      have ag:Zd P t=some true:=by simp [Zd,hu]
      have e1:∀zs:Array Value,(part t zs off).run P w=.ok (.agg (zs.extract off (off+m'))) w:=fun zs=>by
       simp [part,Go.isAgg,run_underlying hu,Qeu hz]
      refine⟨_,_,e1 xs,e1 ys,?_⟩
      rw[show dp+(k+1)=(dp+k)+1 by omega,run_equalIn_agg w (dp+k) t _ _ hfo hst,hff]
      refine Qg5 k fs.toList 0 m' hm' dp a b c _ _ hc (by omega) ?_ ?_
      ·have:((xs.extract off (off+m')).toList.drop 0)=(xs.toList.drop off).take m':=by simp [List.drop_take]
       rw[this];exact hx
      ·have:((ys.extract off (off+m')).toList.drop 0)=(ys.toList.drop off).take m':=by simp [List.drop_take]
       rw[this];exact hy
     ·cases h
    ·cases h
  ·cases h
theorem Qg5(k:Nat):∀(fs:List Field)(i m:Nat),Zm (JT P k) fs i=some m→∀(dp:Nat)(a b:List D)(c:Bool)(xs ys:Array Value),X3 a b=some c→i+a.length=m→
  M0 w a (xs.toList.drop i)→M0 w b (ys.toList.drop i)→(Op.eqFields (dp+k) xs ys fs).run P w=.ok c w
 |[],i,m,h=>by
  intro dp a b c xs ys hc hl _ _
  simp only[Zm,Qb] at h
  have ha:a=[]:=List.eq_nil_of_length_eq_zero (by omega)
  subst ha
  cases b with
  |nil=>simp only[X3,Qb] at hc;subst hc;simp [Op.eqFields]
  |cons b l=>simp [X3] at hc
 |f::fs,i,m,h=>by
  intro dp a b c xs ys hc hl hx hy
  simp only[Zm] at h
  split at h
  case isFalse=>cases h
  rename_i hn
  simp only[Qk,bne_iff_ne,ne_eq,beq_iff_eq] at hn
  obtain⟨hn,ho⟩:=hn
  split at h
  case h_2=>cases h
  rename_i mf hmf
  have hle:=Qev h
  have hl2:=QcP hc
  have ea:a=a.take mf++a.drop mf:=by simp
  have eb:b=b.take mf++b.drop mf:=by simp
  rw[ea,eb] at hc
  obtain⟨c1,c2,h1,h2,rfl⟩:=Qg4 (by simp;omega) hc
  obtain⟨x1,x2⟩:=MRs.split mf (by omega) hx
  obtain⟨y1,y2⟩:=MRs.split mf (by omega) hy
  obtain⟨u,v,p1,p2,p3⟩:=Qew k f.type mf hmf dp _ _ c1 xs ys i h1 (by simp;omega) x1 y1
  have ih:=Qg5 k fs (i+mf) m h dp _ _ c2 xs ys h2 (by simp;omega) (by rw[List.drop_drop] at x2;exact x2) (by rw[List.drop_drop] at y2;exact y2)
  simp only[Op.eqFields,ne_eq,hn,not_false_eq_true,if_true,Sem.run_bind,ho,p1,p2,p3,Result.andThen_ok,Sem.run_ite]
  cases c1
  ·simp
  ·simpa using ih
end
theorem MRs.scalar{I:Nat→Prop}{a b:List D}{c:Bool}(h:X3 a b=some c):∀{vs us:List Value},MRs w I κ a vs→MRs w I κ b us→
  MRs w (fun _=>True) (fun _=>none) a vs∧MRs w (fun _=>True) (fun _=>none) b us:=by
 induction a generalizing b c with
 |nil=>
  cases b with
  |nil=>intro vs us h1 h2;simpa [MRs] using And.intro h1 h2
  |cons b m=>simp [X3] at h
 |cons a l ih=>
  cases b with
  |nil=>cases a<;>simp [X3] at h
  |cons b m=>
   cases a<;>cases b<;>simp only[X3,reduceCtorEq] at h
   split at h
   ·cases hc:X3 l m with
    |none=>simp [hc] at h
    |some c'=>
     intro vs us h1 h2
     simp only[MRs,MR] at h1 h2 ⊢
     obtain⟨v,vs',rfl,rfl,h1⟩:=h1
     obtain⟨u,us',rfl,rfl,h2⟩:=h2
     obtain⟨g1,g2⟩:=ih hc h1 h2
     exact⟨⟨_,_,rfl,rfl,g1⟩,⟨_,_,rfl,rfl,g2⟩⟩
   ·cases h
theorem Qm4{neg:Bool}{t:TypeId}{m:Nat}(ht:Ze P t=some m){x y:Operand}{a b:List D}{va vb:Value}{I:Nat→Prop}(ha:MR w I κ (.agg a) va)(hb:MR w I κ (.agg b) vb){c:Bool}
  (h:X3 a b=some c) (hl:a.length=m):
  ∃v,(do eqGuard (if neg then .neq else .eql) t x y va vb;binOp (if neg then .neq else .eql) t va vb:Sem Value).run P w=.ok v w∧∀I,MR w I κ (.bool (if neg then !c else c)) v:=by
 simp only[MR] at ha hb
 obtain⟨xs,rfl,_,hx⟩:=ha
 obtain⟨ys,rfl,_,hy⟩:=hb
 unfold Ze at ht
 split at ht
 ·rename_i fs hfs
  split at ht
  ·cases ht
  ·rename_i h3
   have h3:P.eqGuardType P.depth t=false:=by simpa using h3
   obtain⟨gx,gy⟩:=MRs.scalar h hx hy
   have lx:=MRs.length gx
   have ly:=MRs.length gy
   have hl2:=QcP h
   have e0:∀(zs:Array Value),zs.toList.length=m→(zs.toList.drop 0).take m=zs.toList:=fun zs hz=>by rw[List.drop_zero,←hz,List.take_length]
   obtain⟨u,v,p1,p2,p3⟩:=Qew (P:=P) (w:=w) 4 t m ht 9996 a b c xs ys 0 h hl (by rw[e0 xs (by omega)];exact gx) (by rw[e0 ys (by omega)];exact gy)
   have hz:Xi P t=some m:=by
    simp only[JT,hfs] at ht
    split at ht
    ·cases ht
    ·split at ht
     ·split at ht
      ·simp only[Qb] at ht;subst ht;assumption
      ·cases ht
     ·cases ht
   have ep:∀(zs:Array Value),zs.toList.length=m→(part t zs 0).run P w=.ok (.agg zs) w:=fun zs hq=>by
    have:zs.extract 0 m=zs:=by
     have:m=zs.size:=by simpa using hq.symm
     rw[this];simp
    simp [part,Go.isAgg,run_underlying hfs,Qeu hz,this]
   rw[ep xs (by omega)] at p1
   rw[ep ys (by omega)] at p2
   simp only[Result.ok.injEq,and_true] at p1 p2
   subst p1 p2
   have hg:=fun op=>run_eqGuard_agg (P:=P) w op t x y xs ys h3
   simp only[Sem.run_bind,hg,Result.andThen_ok]
   cases neg
   ·exact⟨.bool c,by simp [run_eql_struct,p3],fun I=>by simp [MR]⟩
   ·exact⟨.bool (!c),by simp [run_neq_struct,p3],fun I=>by simp [MR]⟩
 ·cases ht
end
end Go.Am
namespace Go.Am
open Go
section
variable {P:Program} {B:Base} {κ:Nat→Option KI} {hp hp':qHp} {F:Nat→Prop} {w:World} {sl:qSl} {tm:Array Value} {df:List Deferred} {n:Nat} {d:D}
def Fr(F:Nat→Prop)(n:Nat):Nat→Prop:=fun id=>F id∧(id<n∨n+64≤id)
theorem Fr.sub(id:Nat)(h:Fr F n id):F id:=h.1
theorem Fr.ne{k:Nat}(hk:k<64)(id:Nat)(h:Fr F n id):F id∧id≠n+k:=⟨h.1,by have:=h.2;omega⟩
theorem ZZ{t:TypeId}{s:Nat}(h:Xi P t=some s):(Go.sizeOf t).run P w=.ok s w:=by
 unfold Xi at h
 cases hi:P.info? t with
 |none=>simp [hi] at h
 |some i=>simp [hi] at h;simp [Go.sizeOf,typeInfo,hi,h]
theorem QcQ{t:TypeId}{ag:Bool}(h:Zd P t=some ag):(Go.isAgg t).run P w=.ok ag w:=by
 unfold Zd at h
 cases hd:P.underlying t with
 |none=>simp [hd] at h
 |some d=>
  simp only[Go.isAgg,Sem.run_bind,run_underlying hd,Result.andThen_ok]
  cases d<;>simp [hd] at h<;>subst h<;>simp
theorem Zt(b off j:Nat):(⟨b,off,none⟩:Addr).add j=⟨b,off+j,none⟩:=by unfold Addr.add;split<;>simp_all
theorem Qex{t:TypeId}{ag:Bool}{m b off:Nat}(ha:Zd P t=some ag)(hz:Xi P t=some m){us:List Value}(hm:Mem w b off us)(hl:us.length=m)(h1:ag=false→m=1):
  (Go.loadVar t ⟨b,off,none⟩).run P w=.ok (if ag then .agg us.toArray else us.headD undef) w:=by
 cases ag
 ·have hm1:=h1 rfl
  subst hm1
  obtain⟨u,rfl⟩:∃u,us=[u]:=by match us,hl with|[u],_=>exact⟨u,rfl⟩
  have:=hm 0 u rfl
  simp only[Nat.add_zero] at this
  simp [Go.loadVar,QcQ ha,this]
 ·have:=run_loadCells_list (P:=P) w ⟨b,off,none⟩ us (fun j v hj=>by rw[Zt];exact hm j v hj)
  rw[hl] at this
  simp [Go.loadVar,QcQ ha,ZZ hz,this]
theorem Qg6{ag:Bool}{cs:List D}(h:ZH ag cs=some d)(hf:ag=false):cs=[d]:=by
 subst hf
 match cs,h with
 |[c],h=>simp [ZH] at h;rw[h]
theorem Qey{I:Nat→Prop}{ag:Bool}{cs:List D}{us:List Value}(hm:MRs w I κ cs us)(h1:∀u∈us,u.oneCell'=true)(h:ZH ag cs=some d):
  (ag=false→us.length=1)∧MR w I κ d (if ag then .agg us.toArray else us.headD undef):=by
 cases ag
 ·have:=Qg6 h rfl
  subst this
  simp only[MRs] at hm
  obtain⟨v,vs',rfl,hd,rfl⟩:=hm
  exact⟨fun _=>rfl,by simpa using hd⟩
 ·simp only[ZH,if_true,Qb] at h
  subst h
  exact⟨by simp,by simp only[MR,if_true];exact⟨_,rfl,h1,hm⟩⟩
theorem Qez{I:Nat→Prop}{v:Value}{cs:List D}(h:MR w I κ d v)(hc:YR d=some cs):MRs w I κ cs v.cells.toList∧∀u∈v.cells.toList,u.oneCell'=true:=by
 have one:∀v:Value,v.oneCell'=true→v.cells=#[v]:=fun v hv=>by cases v<;>simp [Value.oneCell'] at hv<;>rfl
 have key:∀v:Value,v.oneCell'=true→MR w I κ d v→MRs w I κ [d] v.cells.toList∧∀u∈v.cells.toList,u.oneCell'=true:=fun v hv hm=>by
  rw[one v hv];simp [MRs,hv,hm]
 cases d<;>simp only[YR,Qb,reduceCtorEq] at hc<;>subst hc
 case agg cs=>
  simp only[MR] at h
  obtain⟨vs,rfl,h1,h2⟩:=h
  exact⟨h2,h1⟩
 case int=>exact key v (by simp only[MR] at h;subst h;rfl) h
 case bool=>exact key v (by simp only[MR] at h;subst h;rfl) h
 case str=>exact key v (by simp only[MR] at h;subst h;rfl) h
 case nf=>exact key v (by simp only[MR] at h;subst h;rfl) h
 case nl=>exact key v (by simp only[MR] at h;subst h;rfl) h
 case lst=>exact key v (by simp only[MR,DR] at h;rcases h.2.2 with⟨⟨_,rfl⟩,_⟩|⟨b,off,cap,us,rfl,_⟩<;>rfl) h
 case ref=>exact key v (by simp only[MR,DR] at h;obtain⟨_,b,off,us,rfl,_⟩:=h;rfl) h
 case clo=>exact key v (by have h':=h;simp only[MR] at h';obtain⟨vs,rfl,_⟩:=h';rfl) h
 case sl=>exact key v (by have h':=h;simp only[MR] at h';rcases h' with⟨_,_,rfl,_⟩|⟨_,_,_,_,_,_,rfl,_⟩<;>rfl) h
 case pt=>exact key v (by have h':=h;simp only[MR] at h';obtain⟨_,_,rfl⟩:=h';rfl) h
 case pe=>exact key v (by have h':=h;simp only[MR] at h';obtain⟨_,_,_,_,rfl⟩:=h';rfl) h
theorem QbN{I:Nat→Prop}:∀{z:List D}{vs:List Value},Qau z vs=true→MRs w I κ z vs∧∀u∈vs,u.oneCell'=true
 |[],[],_=>by simp [MRs]
 |[],_::_,h=>by simp [Qau] at h
 |_::_,[],h=>by simp [Qau] at h
 |d::ds,v::vs,h=>by
  simp only[Qau,Qk] at h
  obtain⟨g1,g2⟩:=QbN h.2
  have hd:MR w I κ d v∧v.oneCell'=true:=by
   have h0:=h.1
   unfold QgV at h0
   split at h0
   ·simp only[Qk,beq_iff_eq] at h0;obtain⟨rfl,rfl⟩:=h0;exact⟨by simp [MR],rfl⟩
   ·simp only[beq_iff_eq] at h0;subst h0;exact⟨by simp [MR],rfl⟩
   ·simp only[Ql] at h0;subst h0;exact⟨by simp [MR],rfl⟩
   ·exact⟨by simp [MR],rfl⟩
   ·exact⟨by simp [MR],rfl⟩
   ·cases h0
  simp only[MRs]
  refine⟨⟨v,vs,rfl,hd.1,g1⟩,?_⟩
  intro u hu
  rcases Qh.1 hu with rfl|hu
  ·exact hd.2
  ·exact g2 u hu
theorem QcR{t:TypeId}{z:List D}(h:zOf P t=some z):∃v,(zeroValue t).run P w=.ok v w∧(P.info? t).bind (·.zero)=some v∧Qau z v.cells.toList=true:=by
 unfold zOf at h
 split at h
 ·rename_i z' v hz hv
  split at h
  ·rename_i hm
   simp only[Qb] at h
   subst h
   refine⟨v,?_,hv,hm⟩
   cases hi:P.info? t with
   |none=>simp [hi] at hv
   |some i=>simp [hi] at hv;simp [zeroValue,typeInfo,hi,hv]
  ·cases h
 ·cases h
theorem Qg7(h:RH B κ hp F w)(hF:∀k,k<64→F (n+k)){cs:List D}{cur:Array Value}{ty:TypeId}(hm:MRs w (Im B κ hp w) κ cs cur.toList)(h1:∀u∈cur.toList,u.oneCell'=true){r:Result Next}
  (hr:r=.ok (.value (.pointer (some ⟨w.heap.size,0,none⟩))) {w with heap:=w.heap.push (.cells cur ty)}):
  Res P B κ hp (up hp n (.box cs)) (Fr F n) w r (.pt n 0):=by
 have h0:=hF 0 (by omega)
 obtain⟨g1,g2⟩:=h.new (w':={w with heap:=w.heap.push (.cells cur ty)}) (F':=Fr F n) (m:=n) (ki:=.box w.heap.size) (ent:=.box cs) rfl rfl rfl ⟨rfl,Qg _⟩ rfl h0 (Fr.ne (k:=0) (by omega)) (fun keep hg=>by
  simp only[ER]
  exact⟨_,cur,ty,Xe,hg,h1,hm.mono keep (h.kle h0 _)⟩)
 exact⟨_,_,_,.inl hr,g1,g2,by simp only[MR];exact⟨_,Xe,rfl⟩⟩
theorem Qm5(h:RH B κ hp F w)(hF:∀k,k<64→F (n+k)){o:Oper}{e:TypeId}(ho:o.op=.alloc e){z:List D}(hz:zOf P e=some z){ρ:Operand→Value}:
  Res P B κ hp (up hp n (.box z)) (Fr F n) w ((execOp ρ o).run P w) (.pt n 0):=by
 obtain⟨v,hv,_,hm⟩:=QcR (w:=w) hz
 obtain⟨g1,g2⟩:=QbN (w:=w) (I:=Im B κ hp w) (κ:=κ) hm
 refine Qg7 h hF (cur:=v.cells) (ty:=e) g1 g2 ?_
 simp [execOp,ho,Instr.alloc,hv,newVar,newRow]
theorem Qm6(h:RH B κ hp F w)(hs:RS B κ hp w sl tm)(hF:∀k,k<64→F (n+k)){o:Oper}{e:TypeId}{xo:Operand}(ho:o.op=.box e xo){x:X}(hx:cX xo=some x){cs:List D}(he:(ev sl x).bind YR=some cs):
  Res P B κ hp (up hp n (.box cs)) (Fr F n) w ((execOp (Act.eval ⟨tm,df⟩) o).run P w) (.pt n 0):=by
 cases hd:ev sl x with
 |none=>simp [hd] at he
 |some d=>
  simp only[hd,Option.bind_some] at he
  obtain⟨g1,g2⟩:=Qez (Xd (df:=df) hs hx hd) he
  refine Qg7 h hF (cur:=(Act.eval ⟨tm,df⟩ xo).cells) (ty:=e) g1 g2 ?_
  simp [execOp,ho,Instr.box,newVar,newRow]
theorem QbO{ag:Bool}{off m:Nat}{cs:List D}(h:Yv ag off m cs=some d):off+m≤cs.length∧ZH ag ((cs.drop off).take m)=some d:=by
 unfold Yv at h
 split at h
 ·exact⟨by assumption,h⟩
 ·cases h
theorem RH.box(h:RH B κ hp F w){id:Nat}{cs:List D}(he:lk hp id=some (.box cs)):∃b cur ty,κ id=some (.box b)∧OB κ hp w id b∧w.heap[b]?=some (.cells cur ty (0,0))∧(∀u∈cur.toList,u.oneCell'=true)∧MRs w (Im B κ hp w) κ cs cur.toList:=by
 have:=h.ent id _ he
 simp only[ER] at this
 obtain⟨b,cur,ty,h1,h2,h3,h4⟩:=this
 exact⟨b,cur,ty,h1,⟨_,_,he,rfl,h1,.inl rfl⟩,h2,h3,h4⟩
theorem Mem.sub{b off m:Nat}{us:List Value}{o:Nat}(h:Mem w b o us):Mem w b (o+off) ((us.drop off).take m):=by
 intro j u hj
 rw[List.getElem?_take] at hj
 split at hj
 ·rw[List.getElem?_drop] at hj
  have:=h _ _ hj
  rwa [←QA] at this
 ·cases hj
theorem Qg8(h:RH B κ hp F w)(hs:RS B κ hp w sl tm){o:Oper}{t:TypeId}{xo:Operand}(ho:o.op=.load t xo){x:X}(hx:cX xo=some x){ag:Bool}(ha:Zd P t=some ag){m:Nat}(hz:Xi P t=some m)
  (he:ldE sl hp ag m x=some (d,hp')):Res P B κ hp hp' (Fr F n) w ((execOp (Act.eval ⟨tm,df⟩) o).run P w) d:=by
 simp only[ldE] at he
 --enough:the address,and what lies there
 have key:∀(b off:Nat)(us:List Value)(cs:List D),Act.eval ⟨tm,df⟩ xo=.pointer (some ⟨b,off,none⟩)→Mem w b off us→us.length=m→MRs w (Im B κ hp w) κ cs us→(∀u∈us,u.oneCell'=true)→ZH ag cs=some d→
   Res P B κ hp hp (Fr F n) w ((execOp (Act.eval ⟨tm,df⟩) o).run P w) d:=by
  intro b off us cs hv hmem hl hms h1 hof
  obtain⟨g1,g2⟩:=Qey hms h1 hof
  refine Res.pure h Fr.sub (v:=if ag then .agg us.toArray else us.headD undef) ?_ g2
  have:=Qex (P:=P) ha hz hmem hl (fun e=>by rw[←hl];exact g1 e)
  simp [execOp,ho,Instr.loadAt,Instr.sureAddr,hv,this]
 cases hd:ev sl x with
 |none=>simp [hd] at he
 |some dx=>
  have hv:=Xd (df:=df) hs hx hd
  cases dx<;>simp only[hd,reduceCtorEq] at he
  case ref cs=>
   simp only[MR,DR] at hv
   obtain⟨_,b,off,us,hv,hb,hmem,hpc⟩:=hv
   cases hc:Yv ag 0 m cs with
   |none=>simp [hc] at he
   |some d'=>
    simp only[hc,Option.map_some,Qb,Qc] at he
    obtain⟨rfl,rfl⟩:=he
    obtain⟨h1,h2⟩:=QbO hc
    simp only[Nat.zero_add,List.drop_zero] at h1 h2
    have hpc':=hpc.take m
    refine key b off (us.take m) (cs.take m) hv (by have:=Mem.sub (off:=0) (m:=m) hmem;simpa using this) (by rw[hpc'.length];simp;omega) (MRs.of_PC hpc') hpc'.one h2
  case pt id off=>
   cases hl:lk hp id with
   |none=>simp [hl] at he
   |some e=>
    cases e<;>simp only[hl,reduceCtorEq] at he
    rename_i cs
    obtain⟨b,cur,ty,hk,_,hg,h1,hms⟩:=h.box hl
    simp only[MR,hk,Qb,KI.box.injEq] at hv
    obtain⟨b',rfl,hv⟩:=hv
    cases hc:Yv ag off m cs with
    |none=>simp [hc] at he
    |some d'=>
     simp only[hc,Option.map_some,Qb,Qc] at he
     obtain⟨rfl,rfl⟩:=he
     obtain⟨g1,g2⟩:=QbO hc
     have hms':=((hms.take off).2.take m).1
     refine key _ off ((cur.toList.drop off).take m) _ hv (Mem.of_cells hg (fun j u hj=>?_)) (by rw[hms'.length];simp;omega) hms' (fun u hu=>h1 u (QM (Qw hu))) g2
     rw[List.getElem?_take] at hj
     split at hj
     ·rw[List.getElem?_drop] at hj;simpa using hj
     ·cases hj
  case pe id i off=>
   have fin:∀(sz:Nat)(xs:List D)(b:Nat)(us:List Value)(hP:PE w (Im B κ hp w) sz xs us)(hM:Mem w b 0 us)(hv:Act.eval ⟨tm,df⟩ xo=.pointer (some ⟨b,i*sz+off,none⟩))(e:D)(_:xs[i]?=some e)(hc:Yv ag off m e.cells=some d)(hh:hp=hp'),
     Res P B κ hp hp' (Fr F n) w ((execOp (Act.eval ⟨tm,df⟩) o).run P w) d:=by
    intro sz xs b us hP hM hv e hxe hc hh
    subst hh
    obtain⟨a,u,z,rfl,ha,hu,h1,_,_⟩:=hP.get hxe
    have hpc:=h1.cells
    obtain⟨g1,g2⟩:=QbO hc
    have hpc':=(hpc.drop off).take m
    have hM':Mem w b (i*sz) u:=by
     have:=(Mem.append.1 (Mem.append.1 hM).2).1
     rw[ha] at this;simpa using this
    refine key b (i*sz+off) ((u.drop off).take m) _ hv (Mem.sub hM') (by rw[hpc'.length];simp;omega) (MRs.of_PC hpc') hpc'.one g2
   simp only[MR] at hv
   obtain⟨b,sz,tot,hk,hv⟩:=hv
   cases hl:lk hp id with
   |none=>simp [hl] at he
   |some e=>
    have hent:=h.ent id e hl
    cases e<;>simp only[hl,reduceCtorEq] at he
    ·rename_i sz' xs
     cases hxe:xs[i]? with
     |none=>simp [hxe] at he
     |some e=>
      cases hc:Yv ag off m e.cells with
      |none=>simp [hxe,hc] at he
      |some d'=>
       simp only[hxe,hc,Option.map_some,Qb,Qc] at he
       obtain⟨rfl,rfl⟩:=he
       simp only[ER,hk,Qb,reduceCtorEq,false_and,false_or,KI.arr.injEq] at hent
       obtain⟨_,b',tot',cur,ty,us,⟨rfl,rfl,rfl⟩,_,_,hM,hP⟩:=hent
       exact fin _ xs _ us hP hM hv e hxe hc rfl
    ·rename_i sz' xs
     cases hxe:xs[i]? with
     |none=>simp [hxe] at he
     |some e=>
      cases hc:Yv ag off m e.cells with
      |none=>simp [hxe,hc] at he
      |some d'=>
       simp only[hxe,hc,Option.map_some,Qb,Qc] at he
       obtain⟨rfl,rfl⟩:=he
       simp only[ER,hk,Qb,reduceCtorEq,false_and,false_or,KI.arr.injEq] at hent
       obtain⟨_,b',tot',us,⟨rfl,rfl,rfl⟩,_,hM,hP⟩:=hent
       exact fin _ xs _ us hP hM hv e hxe hc rfl
theorem Qg9:∀(vs:List Value)(off:Nat)(cs:List Value),off+vs.length≤cs.length→
  ((vs.zipIdx 0).foldl (fun cs (x:Value×Nat)=>cs.setIfInBounds (off+x.2) x.1) cs.toArray)=(cs.take off++(vs++cs.drop (off+vs.length))).toArray:=by
 have key:∀(vs:List Value)(k off:Nat)(cs:List Value),off+k+vs.length≤cs.length→
   ((vs.zipIdx k).foldl (fun cs (x:Value×Nat)=>cs.setIfInBounds (off+x.2) x.1) cs.toArray)=(cs.take (off+k)++(vs++cs.drop (off+k+vs.length))).toArray:=by
  intro vs
  induction vs with
  |nil=>intro k off cs h;simp
  |cons v vs ih=>
   intro k off cs h
   simp only[List.length_cons] at h
   simp only[List.zipIdx_cons,List.foldl_cons,List.setIfInBounds_toArray]
   rw[ih (k+1) off (cs.set (off+k) v) (by simp;omega)]
   congr 1
   rw[show off+(k+1)=off+k+1 from by omega,List.take_add_one]
   simp only[List.take_set,List.getElem?_set,List.drop_set]
   have h1:off+k<cs.length:=by omega
   have h2:(cs.take (off+k)).set (off+k) v=cs.take (off+k):=List.set_eq_of_length_le (by simp;omega)
   have h3:¬(off+k≥off+k+1+vs.length):=by omega
   simp [h1,h2]
   rw[if_pos (by omega)]
   rw[show off+k+1+vs.length=off+k+(vs.length+1) from by omega]
 intro vs off cs h
 have:=key vs 0 off cs (by omega)
 simpa using this
def Qbb(place:Nat→Option (Nat×Nat)):List (Nat×X)→List (Nat×Nat×X)→Prop
 |[],[]=>True
 |(i,x)::l,(off,m,y)::l'=>x=y∧place i=some (off,m)∧Qbb place l l'
 |_,_=>False
theorem Qha{t:TypeId}{place:Nat→Option (Nat×Nat)}(hpl:∀i off m ag,JV P t i=some (off,m,ag)→place i=some (off,m)):∀{l1:List (Nat×X)}{l2:List (Nat×Nat×X)},cFs P t l1=some l2→Qbb place l1 l2
 |[],l2,h=>by simp only[cFs,Qb] at h;subst h;trivial
 |(i,x)::l,l2,h=>by
  simp only[cFs] at h
  split at h
  ·rename_i off m ag l' hf hl'
   simp only[Qb] at h
   subst h
   exact⟨rfl,hpl i off m ag hf,Qha hpl hl'⟩
  ·cases h
theorem Qhb(hs:RS B κ hp w sl tm){place:Nat→Option (Nat×Nat)}:
  ∀{ps:List (Nat×Operand)}{l1:List (Nat×X)}{l2:List (Nat×Nat×X)}{z cs:List D}{vs:List Value},
  cPs ps=some l1→Qbb place l1 l2→Zc sl l2 z=some cs→MRs w (Im B κ hp w) κ z vs→(∀u∈vs,u.oneCell'=true)→
  ∃us,Instr.fill place vs.toArray (ps.map fun p=>(p.1,Act.eval ⟨tm,df⟩ p.2))=some us.toArray∧MRs w (Im B κ hp w) κ cs us∧∀u∈us,u.oneCell'=true:=by
 intro ps
 induction ps with
 |nil=>
  intro l1 l2 z cs vs h1 h2 h3 hm ho
  simp only[cPs,Qb] at h1
  subst h1
  have e2:l2=[]:=by cases l2 with
   |nil=>rfl
   |cons a l=>simp [Qbb] at h2
  subst e2
  simp only[Zc,Qb] at h3
  subst h3
  exact⟨vs,by simp [Instr.fill],hm,ho⟩
 |cons p ps ih=>
  obtain⟨i,xo⟩:=p
  intro l1 l2 z cs vs h1 h2 h3 hm ho
  simp only[cPs] at h1
  split at h1
  ·rename_i x l hx hl
   simp only[Qb] at h1
   subst h1
   rcases l2 with _|⟨⟨off,m,y⟩,l'⟩
   ·simp [Qbb] at h2
   ·obtain⟨rfl,hf,hl'⟩:=h2
    simp only[Zc] at h3
    split at h3
    ·rename_i q hq
     split at h3
     ·rename_i hc
      cases hd:ev sl x with
      |none=>simp [hd] at hq
      |some d=>
       simp only[hd,Option.bind_some] at hq
       obtain⟨g1,g2⟩:=Qez (Xd (df:=df) hs hx hd) hq
       have hlen:(Act.eval ⟨tm,df⟩ xo).cells.size=m:=by have:=g1.length;simp at this;omega
       have hvl:=hm.length
       have hms:MRs w (Im B κ hp w) κ (XQ z off q) (vs.take off++(Act.eval ⟨tm,df⟩ xo).cells.toList++vs.drop (off+m)):=by
        unfold XQ
        rw[hc.1]
        exact MRs.append.2 ⟨_,_,rfl,MRs.append.2 ⟨_,_,rfl,(hm.take off).1,g1⟩,(hm.take (off+m)).2⟩
       obtain⟨us,e1,e2,e3⟩:=ih hl hl' h3 hms (fun u hu=>by
        rcases Qd.1 hu with hu|hu
        ·rcases Qd.1 hu with hu|hu
         ·exact ho u (Qw hu)
         ·exact g2 u hu
        ·exact ho u (QM hu))
       refine⟨us,?_,e2,e3⟩
       simp only[List.map_cons,Instr.fill,hf]
       have hb:¬((Act.eval ⟨tm,df⟩ xo).cells.size≠m∨off+(Act.eval ⟨tm,df⟩ xo).cells.size>vs.toArray.size):=by
        simp only[List.size_toArray];omega
       rw[if_neg (by simpa using hb)]
       rw[←e1]
       congr 1
       have:=Qg9 (Act.eval ⟨tm,df⟩ xo).cells.toList off vs (by simp;omega)
       rw[←Array.foldl_toList,Array.toList_zipIdx]
       rw[this]
       simp [hlen]
     ·cases h3
    ·cases h3
  ·cases h1
end
end Go.Am
