/- How a state of the machine lies in memory. -/
import Derived.Test.YtgllpjliaepbdaaGreatAmPa
import Derived.Laws.StructEq
import Derived.Laws.Entries
namespace Go.Am
open Go
section maps
variable {α:Type}
theorem Yw(l:List (Nat×α))(n m:Nat)(x:α):lk (up l n x) m=if m=n then some x else lk l m:=by
 induction l with
 |nil=>simp only[up,lk]
 |cons p l ih=>
  obtain⟨k,a⟩:=p
  simp only[up]
  by_cases h:n=k
  ·subst h;simp only[if_true,lk];split<;>rfl
  ·simp only[if_neg h,lk,ih]
   by_cases hm:m=k
   ·subst hm;simp [Ne.symm h]
   ·simp [hm]
theorem ZG(l:List (Nat×α))(n m:Nat):lk (rm l n) m=if m=n then none else lk l m:=by
 induction l with
 |nil=>simp [rm,lk]
 |cons p l ih=>
  obtain⟨k,a⟩:=p
  simp only[rm]
  by_cases h:n=k
  ·subst h;simp only[if_true,ih,lk];split<;>simp_all
  ·simp only[if_neg h,lk,ih]
   by_cases hm:m=k
   ·subst hm;simp [Ne.symm h]
   ·simp [hm]
theorem J8(l m:List (Nat×α))(n:Nat):lk (l++m) n=(lk l n).or (lk m n):=by
 induction l with
 |nil=>simp [lk]
 |cons p l ih=>
  obtain⟨k,a⟩:=p
  simp only[List.cons_append,lk,ih]
  split<;>simp
theorem QPF(keep:List Nat)(l:qSl)(n:Nat):lk (fil keep l) n=if keep.contains n then lk l n else none:=by
 induction l with
 |nil=>simp [fil,lk]
 |cons p l ih=>
  obtain⟨k,a⟩:=p
  simp only[fil]
  by_cases hm:n=k
  ·subst hm;split<;>rename_i h<;>simp only[lk,ih,h]<;>simp
  ·split<;>simp only[lk,ih,if_neg hm]
end maps
inductive KI where
 |nil (sz:Nat)
 |arr (b sz tot:Nat)
 |box (b:Nat)
def KI.blk:KI→Option Nat
 | .nil _=>none
 | .arr b _ _=>some b
 | .box b=>some b
def Ent.owned:Ent→Bool
 | .imm ..=>false
 |_=>true
mutual
def MR(w:World)(I:Nat→Prop)(κ:Nat→Option KI):D→Value→Prop
 | .sl id lo len,v=>(∃sz,κ id=some (.nil sz)∧v=.slice none 0 0∧lo=0∧len=0)∨
   ∃b sz tot off cap,κ id=some (.arr b sz tot)∧v=.slice (some ⟨b,off,none⟩) len cap∧len≤cap∧cap≤maxLen∧off+cap*sz≤tot∧(0<len∨lo=0→off=lo*sz)
 | .pt id off,v=>∃b,κ id=some (.box b)∧v=.pointer (some ⟨b,off,none⟩)
 | .pe id i off,v=>∃b sz tot,κ id=some (.arr b sz tot)∧v=.pointer (some ⟨b,i*sz+off,none⟩)
 | .undef,v=>∀b,v≠.bool b
 | .agg cs,v=>∃vs,v=.agg vs∧(∀u∈vs.toList,u.oneCell'=true)∧MRs w I κ cs vs.toList
 | .tup ds,v=>∃vs,v=.tuple vs∧MRs w I κ ds vs.toList
 | .clo f cs,v=>∃vs,v=.func (.func f) #[] vs∧MRs w I κ cs vs.toList
 | .arr _ xs,v=>v=.slice none 0 0∧xs=[]
 | .box ..,_=>False
 | .clb f cs,v=>∃vs,v=.func (.func f) #[] vs∧MRs w I κ cs vs.toList
 | .int k n,v=>v=.int k n
 | .bool b,v=>v=.bool b
 | .str b,v=>v=.string b
 | .nf,v=>v=.nilFunc
 | .nl _,v=>v=.slice none 0 0
 | .lst sz xs,v=>DR w I (.lst sz xs) v []
 | .ref cs,v=>DR w I (.ref cs) v []
def MRs(w:World)(I:Nat→Prop)(κ:Nat→Option KI):List D→List Value→Prop
 |[],vs=>vs=[]
 |d::ds,vs=>∃v vs',vs=v::vs'∧MR w I κ d v∧MRs w I κ ds vs'
end
def Kle(κ κ':Nat→Option KI):Prop:=∀id k,κ id=some k→κ' id=some k
mutual
theorem MR.mono{w w':World}{I I':Nat→Prop}{κ κ':Nat→Option KI}(k:Keep w w' I I')(hk:Kle κ κ'):
  ∀(d:D)(v:Value),MR w I κ d v→MR w' I' κ' d v
 | .sl id lo len,v,h=>by
  simp only[MR] at h ⊢
  rcases h with⟨sz,h,r⟩|⟨b,sz,tot,off,cap,h,r⟩
  ·exact .inl ⟨sz,hk _ _ h,r⟩
  ·exact .inr ⟨b,sz,tot,off,cap,hk _ _ h,r⟩
 | .pt id off,v,h=>by
  simp only[MR] at h ⊢
  obtain⟨b,h,r⟩:=h
  exact⟨b,hk _ _ h,r⟩
 | .pe id i off,v,h=>by
  simp only[MR] at h ⊢
  obtain⟨b,sz,tot,h,r⟩:=h
  exact⟨b,sz,tot,hk _ _ h,r⟩
 | .undef,_,h=>by simp only[MR] at h ⊢;exact h
 | .agg cs,v,h=>by
  simp only[MR] at h ⊢
  obtain⟨vs,h,h1,r⟩:=h
  exact⟨vs,h,h1,MRs.mono k hk cs _ r⟩
 | .tup cs,v,h=>by
  simp only[MR] at h ⊢
  obtain⟨vs,h,r⟩:=h
  exact⟨vs,h,MRs.mono k hk cs _ r⟩
 | .clo f cs,v,h=>by
  simp only[MR] at h ⊢
  obtain⟨vs,h,r⟩:=h
  exact⟨vs,h,MRs.mono k hk cs _ r⟩
 | .arr ..,_,h=>by simpa [MR] using h
 | .box ..,_,h=>by simp [MR] at h
 | .clb f cs,v,h=>by
  simp only[MR] at h ⊢
  obtain⟨vs,h,r⟩:=h
  exact⟨vs,h,MRs.mono k hk cs _ r⟩
 | .int _ n,v,h=>by simpa [MR] using h
 | .bool b,v,h=>by simpa [MR] using h
 | .str b,v,h=>by simpa [MR] using h
 | .nf,v,h=>by simpa [MR] using h
 | .nl _,v,h=>by simpa [MR] using h
 | .lst sz xs,v,h=>by
  simp only[MR] at h ⊢
  exact DR.mono k _ _ _ (by simp) h
 | .ref cs,v,h=>by
  simp only[MR] at h ⊢
  exact DR.mono k _ _ _ (by simp) h
theorem MRs.mono{w w':World}{I I':Nat→Prop}{κ κ':Nat→Option KI}(k:Keep w w' I I')(hk:Kle κ κ'):
  ∀(ds:List D)(vs:List Value),MRs w I κ ds vs→MRs w' I' κ' ds vs
 |[],vs,h=>by simpa [MRs] using h
 |d::ds,vs,h=>by
  simp only[MRs] at h ⊢
  obtain⟨v,vs',hv,hd,hds⟩:=h
  exact⟨v,vs',hv,MR.mono k hk d v hd,MRs.mono k hk ds vs' hds⟩
end
mutual
theorem Qdo(b:Bool):undef≠.bool b:=fun e=>by cases e
theorem MR.nb{w:World}{I:Nat→Prop}{κ:Nat→Option KI}{d:D}{v:Value}(h:MR w I κ d v)(hd:∀b,d≠.bool b):∀b,v≠.bool b:=by
 rintro b rfl
 cases d<;>simp [MR,DR] at h
 ·exact hd _ rfl
theorem MR.of_DR{w:World}{I:Nat→Prop}{κ:Nat→Option KI}:∀(d:D)(v:Value),DR w I d v []→MR w I κ d v
 | .int _ _,v,h=>by simpa [MR,DR] using h
 | .bool _,v,h=>by simpa [MR,DR] using h
 | .str _,v,h=>by simpa [MR,DR] using h
 | .nf,v,h=>by simpa [MR,DR] using h
 | .nl _,v,h=>by simpa [MR,DR] using h
 | .lst _ _,v,h=>by simpa only[MR] using h
 | .ref _,v,h=>by simpa only[MR] using h
 | .arr sz xs,v,h=>by
  simp only[DR] at h
  rcases h.2 with⟨h1,h2,_⟩|⟨b,cap,cur,e,us,_,h2,_⟩
  ·simp [MR,h1,h2]
  ·cases h2
 | .agg cs,v,h=>by
  simp only[DR] at h
  obtain⟨vs,h1,h2,h3⟩:=h
  simp only[MR]
  exact⟨vs,h1,h2,MRs.of_DRs cs _ h3⟩
 | .tup cs,v,h=>by
  simp only[DR] at h
  obtain⟨vs,h1,h3⟩:=h
  simp only[MR]
  exact⟨vs,h1,MRs.of_DRs cs _ h3⟩
 | .clo f cs,v,h=>by
  simp only[DR] at h
  obtain⟨vs,h1,h3⟩:=h
  simp only[MR]
  exact⟨vs,h1,MRs.of_DRs cs _ h3⟩
 | .clb f cs,v,h=>by
  simp only[DR] at h
  obtain⟨vs,h1,h3⟩:=h
  simp only[MR]
  exact⟨vs,h1,MRs.of_DRs cs _ h3⟩
 | .box cs,v,h=>by
  simp only[DR] at h
  obtain⟨b,cur,e,os',_,h2,_⟩:=h
  cases h2
 | .sl ..,_,h=>by simp [DR] at h
 | .pt ..,_,h=>by simp [DR] at h
 | .pe ..,_,h=>by simp [DR] at h
 | .undef,_,h=>by simp [DR] at h
theorem MRs.of_DRs{w:World}{I:Nat→Prop}{κ:Nat→Option KI}:∀(ds:List D)(vs:List Value),DRs w I ds vs []→MRs w I κ ds vs
 |[],vs,h=>by simp only[DRs] at h;simp [MRs,h.1]
 |d::ds,vs,h=>by
  simp only[DRs] at h
  obtain⟨v,vs',o,o',h1,h2,h3,h4⟩:=h
  obtain⟨rfl,rfl⟩:o=[]∧o'=[]:=by simpa using h2.symm
  simp only[MRs]
  exact⟨v,vs',h1,MR.of_DR d v h3,MRs.of_DRs ds vs' h4⟩
end
def ER(w:World)(I:Nat→Prop)(κ:Nat→Option KI)(id:Nat):Ent→Prop
 | .arr sz xs=>xs.length≤QW∧((κ id=some (.nil sz)∧xs=[])∨
   ∃b tot cur e us,κ id=some (.arr b sz tot)∧w.heap[b]?=some (.cells cur e (0,0))∧tot≤cur.size∧Mem w b 0 us∧PE w I sz xs us)
 | .imm sz xs=>xs.length≤QW∧((κ id=some (.nil sz)∧xs=[])∨
   ∃b tot us,κ id=some (.arr b sz tot)∧I b∧Mem w b 0 us∧PE w I sz xs us)
 | .box cs=>∃b cur e,κ id=some (.box b)∧w.heap[b]?=some (.cells cur e (0,0))∧(∀u∈cur.toList,u.oneCell'=true)∧MRs w I κ cs cur.toList
 | .nst sz l=>∃b tot cur e,κ id=some (.arr b 1 tot)∧w.heap[b]?=some (.cells cur e (0,0))∧tot≤cur.size∧l.length≤cur.size∧
   (∀(i:Nat)(xs:List D),l[i]?=some (some xs)→∃v os,cur[i]?=some v∧DR w I (.arr sz xs) v os∧b∉os)∧
   ∀(i j:Nat)(xs ys:List D)(c p q r s:Nat),l[i]?=some (some xs)→l[j]?=some (some ys)→cur[i]?=some (Value.slice (some ⟨c,0,none⟩) p q)→cur[j]?=some (Value.slice (some ⟨c,0,none⟩) r s)→i=j
theorem QfN{w:World}{I:Nat→Prop}{κ:Nat→Option KI}{d:D}{v:Value}(h:MR w I κ d v)(hc:X5 d=true):DR w I d v []:=by
 cases d<;>simp only[X5,reduceCtorEq,Bool.false_eq_true] at hc<;>simp only[MR] at h<;>first|exact h|simpa [DR] using h
theorem QfO{w:World}{I:Nat→Prop}{κ:Nat→Option KI}:∀{cs:List D}{us:List Value},MRs w I κ cs us→cs.all X5=true→DRs w I cs us []
 |[],us,h,_=>by simp only[MRs] at h;simp [DRs,h]
 |c::cs,us,h,ha=>by
  simp only[MRs] at h
  obtain⟨v,vs',rfl,hd,hds⟩:=h
  simp only[List.all_cons,Qi] at ha
  simp only[DRs]
  exact⟨v,vs',[],[],rfl,rfl,QfN hd ha.1,QfO hds ha.2⟩
theorem Qng{w:World}{I:Nat→Prop}{κ:Nat→Option KI}:∀{cs:List D}{us:List Value},MRs w I κ cs us→cs.all X5=true→(∀u∈us,u.oneCell'=true)→PC w I cs us
 |[],us,h,_,_=>by simpa [MRs,PC] using h
 |c::cs,us,h,ha,h1=>by
  simp only[MRs] at h
  obtain⟨v,vs',rfl,hd,hds⟩:=h
  simp only[List.all_cons,Qi] at ha
  simp only[PC]
  exact⟨v,vs',rfl,h1 v (by simp),QfN hd ha.1,Qng hds ha.2 fun u hu=>h1 u (by simp [hu])⟩
structure Base where
 w:World
 I:Nat→Prop
 os:List Nat
 N:Nat
 fx:List Nat
 vs:List Value
def InB(w:World):Ent→KI→Nat→Prop
 | .nst _ l,.arr b0 _ _,b=>∃(cur:Array Value) (ty:TypeId) (i:Nat) (xs:List D) (p q:Nat),w.heap[b0]?=some (.cells cur ty (0,0))∧l[i]?=some (some xs)∧cur[i]?=some (Value.slice (some ⟨b,0,none⟩) p q)
 |_,_,_=>False
def Ow(w:World)(e:Ent)(k:KI)(b:Nat):Prop:=k.blk=some b∨InB w e k b
def OB(κ:Nat→Option KI)(hp:qHp)(w:World)(id b:Nat):Prop:=
 ∃e k,lk hp id=some e∧e.owned=true∧κ id=some k∧Ow w e k b
def Jo(κ:Nat→Option KI)(hp:qHp)(w:World)(b:Nat):Prop:=∃id,OB κ hp w id b
def Ent.own1:Ent→Bool
 | .imm ..| .nst ..=>false
 |_=>true
theorem Ow.own1{w:World}{e:Ent}{k:KI}{b:Nat}(h:Ow w e k b)(he:e.own1=true):k.blk=some b:=by
 rcases h with h|h
 ·exact h
 ·cases e
  case nst=>cases he
  all_goals (unfold InB at h;split at h<;>first|exact h.elim|(simp_all;done))
theorem Ow.congr{w w':World}{e:Ent}{k:KI}{b:Nat}(h:Ow w' e k b)(hb:∀b0,k.blk=some b0→w'.heap[b0]?=w.heap[b0]?):Ow w e k b:=by
 rcases h with h|h
 ·exact .inl h
 ·unfold InB at h
  split at h
  ·rename_i z l b0 s t
   obtain⟨cur,ty,i,xs,p,q,h1,h2,h3⟩:=h
   exact .inr ⟨cur,ty,i,xs,p,q,by rw[←hb b0 rfl];exact h1,h2,h3⟩
  ·exact h.elim
def Im(B:Base)(κ:Nat→Option KI)(hp:qHp)(w:World)(b:Nat):Prop:=
 (B.I b∨b∈B.os∨B.w.heap.size≤b)∧b<w.heap.size∧¬Jo κ hp w b
structure RH(B:Base)(κ:Nat→Option KI)(hp:qHp)(F:Nat→Prop)(w:World):Prop where
 stp:Stp (·∈B.os) B.w w
 fr:∀id,F id→κ id=none
 ent:∀id e,lk hp id=some e→ER w (Im B κ hp w) κ id e
 own:∀b,Jo κ hp w b→(b∈B.os∨B.w.heap.size≤b)∧b<w.heap.size
 inj:∀id id' b,OB κ hp w id b→OB κ hp w id' b→id=id'
structure RS(B:Base)(κ:Nat→Option KI)(hp:qHp)(w:World)(sl:qSl)(tm:Array Value):Prop where
 size:tm.size=B.N
 sl:∀t d,lk sl t=some d→∃v,tm[t]?=some v∧MR w (Im B κ hp w) κ d v
 fx:∀t∈B.fx,tm[t]?=B.vs[t]?
structure Nxt(B:Base)(κ κ':Nat→Option KI)(hp hp':qHp)(w w':World):Prop where
 kle:Kle κ κ'
 keep:Keep w w' (Im B κ hp w) (Im B κ' hp' w')
theorem Nxt.refl(B:Base)(κ:Nat→Option KI)(hp:qHp)(w:World):Nxt B κ κ hp hp w w:=⟨fun _ _ h=>h,fun _ h=>h,fun _ _=>rfl⟩
theorem Nxt.trans{B:Base}{κ κ' κ'':Nat→Option KI}{hp hp' hp'':qHp}{w w' w'':World}(h:Nxt B κ κ' hp hp' w w')(k:Nxt B κ' κ'' hp' hp'' w' w''):Nxt B κ κ'' hp hp'' w w'':=
 ⟨fun _ _ e=>k.kle _ _ (h.kle _ _ e),fun b hb=>k.keep.mem b (h.keep.mem b hb),fun b hb=>(k.keep.same b (h.keep.mem b hb)).trans (h.keep.same b hb)⟩
theorem RS.next{B:Base}{κ κ':Nat→Option KI}{hp hp':qHp}{w w':World}{sl:qSl}{tm:Array Value}(h:RS B κ hp w sl tm)(k:Nxt B κ κ' hp hp' w w'):RS B κ' hp' w' sl tm:=
 ⟨h.size,fun t d ht=>let ⟨v,hv,hm⟩:=h.sl t d ht;⟨v,hv,hm.mono k.keep k.kle⟩,h.fx⟩
theorem RS.put{B:Base}{κ:Nat→Option KI}{hp:qHp}{w:World}{sl:qSl}{tm:Array Value}(h:RS B κ hp w sl tm){t:Nat}{d:D}{v:Value}(ht:t<B.N)(hf:t∉B.fx)
  (hm:MR w (Im B κ hp w) κ d v):RS B κ hp w (up sl t d) (tm.setIfInBounds t v):=by
 refine⟨by simp [h.size],fun t' d' h'=>?_,fun t' ht'=>?_⟩
 ·rw[Yw] at h'
  by_cases e:t'=t
  ·subst e
   simp only[if_true,Qb] at h'
   subst h'
   exact⟨v,by simp [h.size,ht],hm⟩
  ·rw[if_neg e] at h'
   obtain⟨v',hv',hm'⟩:=h.sl t' d' h'
   exact⟨v',by rw[QO (Ne.symm e)];exact hv',hm'⟩
 ·have e:t≠t':=fun e=>hf (e▸ht')
  rw[QO e]
  exact h.fx t' ht'
theorem ER.mono{w w':World}{I I':Nat→Prop}{κ κ':Nat→Option KI}{id:Nat}{e:Ent}(k:Keep w w' I I')(hk:Kle κ κ')
  (hb:e.owned=true→∀q b,κ id=some q→Ow w e q b→w'.heap[b]?=w.heap[b]?) (h:ER w I κ id e):ER w' I' κ' id e:=by
 cases e with
 |arr sz xs=>
  simp only[ER] at h ⊢
  refine⟨h.1,h.2.imp (fun⟨a,b⟩=>⟨hk _ _ a,b⟩) ?_⟩
  rintro⟨b,tot,cur,e,us,h1,h2,h3,h4,h5⟩
  have hbb:=hb rfl _ b h1 (.inl rfl)
  exact⟨b,tot,cur,e,us,hk _ _ h1,by rw[hbb];exact h2,h3,h4.mono hbb,PE.mono k _ _ _ h5⟩
 |imm sz xs=>
  simp only[ER] at h ⊢
  refine⟨h.1,h.2.imp (fun⟨a,b⟩=>⟨hk _ _ a,b⟩) ?_⟩
  rintro⟨b,tot,us,h1,h2,h4,h5⟩
  exact⟨b,tot,us,hk _ _ h1,k.mem b h2,h4.mono (k.same b h2),PE.mono k _ _ _ h5⟩
 |box cs=>
  simp only[ER] at h ⊢
  obtain⟨b,cur,e,h1,h2,h3,h4⟩:=h
  have hbb:=hb rfl _ b h1 (.inl rfl)
  exact⟨b,cur,e,hk _ _ h1,by rw[hbb];exact h2,h3,MRs.mono k hk _ _ h4⟩
 |nst sz l=>
  simp only[ER] at h ⊢
  obtain⟨b,tot,cur,e,h1,h2,h3,h4,h5,h6⟩:=h
  have hbb:=hb rfl _ b h1 (.inl rfl)
  refine⟨b,tot,cur,e,hk _ _ h1,by rw[hbb];exact h2,h3,h4,fun i xs hi=>?_,h6⟩
  obtain⟨v,os,g1,g2,g3⟩:=h5 i xs hi
  refine⟨v,os,g1,DR.mono k _ _ _ (fun c hc=>?_) g2,g3⟩
  have g4:=g2
  simp only[DR] at g4
  rcases g4.2 with⟨_,_,rfl⟩|⟨c',cap,_,_,_,rfl,rfl,_⟩
  ·cases hc
  ·rw[Qn] at hc
   subst hc
   exact hb rfl _ c h1 (.inr ⟨cur,e,i,xs,_,_,h2,hi,g1⟩)
theorem Mem.nil{w:World}{b off:Nat}:Mem w b off []:=by intro j u h;simp at h
theorem Mem.append{w:World}{b off:Nat}{u v:List Value}:Mem w b off (u++v)↔Mem w b off u∧Mem w b (off+u.length) v:=by
 constructor
 ·intro h
  refine⟨fun j x hj=>h j x ?_,fun j x hj=>?_⟩
  ·rw[Qy (Qw.1 hj).1];exact hj
  ·have:=h (u.length+j) x (by rw[QH (by omega)];simpa using hj)
   rw[←QD] at this;exact this
 ·rintro⟨h1,h2⟩ j x hj
  by_cases hlt:j<u.length
  ·rw[Qy hlt] at hj;exact h1 j x hj
  ·rw[QH (by omega)] at hj
   have:=h2 _ x hj
   have e:off+u.length+(j-u.length)=off+j:=by omega
   rw[e] at this;exact this
theorem Mem.of_cells{w:World}{b:Nat}{cur:Array Value}{e:TypeId}{fr:Nat×Nat}(hg:w.heap[b]?=some (.cells cur e fr)){off:Nat}{us:List Value}(h:∀j u,us[j]?=some u→cur[off+j]?=some u):Mem w b off us:=
 fun j u hj=>by rw[cell_of_row w b _ cur e fr hg];exact h j u hj
theorem Mem.cells{w:World}{b:Nat}{cur:Array Value}{e:TypeId}{fr:Nat×Nat}(hg:w.heap[b]?=some (.cells cur e fr)){off:Nat}{us:List Value}(h:Mem w b off us)(j:Nat)(u:Value)(hj:us[j]?=some u):cur[off+j]?=some u:=by
 have:=h j u hj
 rwa [cell_of_row w b _ cur e fr hg] at this
theorem Mem.le{w:World}{b:Nat}{cur:Array Value}{e:TypeId}{fr:Nat×Nat}(hg:w.heap[b]?=some (.cells cur e fr)){off:Nat}{us:List Value}(h:Mem w b off us)(hne:0<us.length):off+us.length≤cur.size:=by
 have h1:us[us.length-1]?=some (us[us.length-1]'(by omega)):=Qq (by omega)
 have:=Mem.cells hg h _ _ h1
 have:=(QK.1 this).1
 omega
section
variable {w:World} {I:Nat→Prop}
theorem DR.lst_os{sz:Nat}{xs:List D}{v:Value}{os:List Nat}(h:DR w I (.lst sz xs) v os):os=[]:=by simp only[DR] at h;exact h.1
theorem PC.length{cs:List D}{us:List Value}(h:PC w I cs us):us.length=cs.length:=by
 induction cs generalizing us with
 |nil=>simp only[PC] at h;subst h;rfl
 |cons c cs ih=>
  simp only[PC] at h
  obtain⟨u,us',rfl,_,_,h⟩:=h
  simp [ih h]
theorem PC.one{cs:List D}{us:List Value}(h:PC w I cs us):∀u∈us,u.oneCell'=true:=by
 induction cs generalizing us with
 |nil=>simp only[PC] at h;subst h;simp
 |cons c cs ih=>
  simp only[PC] at h
  obtain⟨u,us',rfl,h1,_,h⟩:=h
  intro x hx
  rcases Qh.1 hx with rfl|hx
  ·exact h1
  ·exact ih h x hx
theorem PC.append{cs ds:List D}{us:List Value}:PC w I (cs++ds) us↔∃u v,us=u++v∧PC w I cs u∧PC w I ds v:=by
 induction cs generalizing us with
 |nil=>exact⟨fun h=>⟨[],us,rfl,by simp [PC],h⟩,by rintro⟨u,v,rfl,h,k⟩;simp only[PC] at h;subst h;exact k⟩
 |cons c cs ih=>
  simp only[List.cons_append,PC]
  constructor
  ·rintro⟨u,us',rfl,h1,h2,h3⟩
   obtain⟨u',v,rfl,h4,h5⟩:=ih.1 h3
   exact⟨u::u',v,rfl,⟨u,u',rfl,h1,h2,h4⟩,h5⟩
  ·rintro⟨u,v,rfl,⟨u',us',rfl,h1,h2,h3⟩,h4⟩
   exact⟨u',us'++v,rfl,h1,h2,ih.2 ⟨us',v,rfl,h3,h4⟩⟩
theorem PC.take{cs:List D}{us:List Value}(n:Nat)(h:PC w I cs us):PC w I (cs.take n) (us.take n):=by
 have e:=h
 rw[←List.take_append_drop n cs] at e
 obtain⟨u,v,rfl,h1,h2⟩:=PC.append.1 e
 have hl:=h1.length
 by_cases hn:n≤cs.length
 ·have:u.length=n:=by rw[hl];simp;omega
  subst this;simpa using h1
 ·have e2:cs.drop n=[]:=by simp;omega
  rw[e2] at h2;simp only[PC] at h2;subst h2
  have:u.length≤n:=by rw[hl];simp;omega
  simpa [QA this] using h1
theorem PC.drop{cs:List D}{us:List Value}(n:Nat)(h:PC w I cs us):PC w I (cs.drop n) (us.drop n):=by
 have e:=h
 rw[←List.take_append_drop n cs] at e
 obtain⟨u,v,rfl,h1,h2⟩:=PC.append.1 e
 have hl:=h1.length
 by_cases hn:n≤cs.length
 ·have:u.length=n:=by rw[hl];simp;omega
  subst this;simpa using h2
 ·have e2:cs.drop n=[]:=by simp;omega
  rw[e2] at h2 ⊢;simp only[PC] at h2;subst h2
  have:u.length≤n:=by rw[hl];simp;omega
  simp [PC,this]
theorem PE.length{sz:Nat}{xs:List D}{us:List Value}(h:PE w I sz xs us):us.length=xs.length*sz:=by
 induction xs generalizing us with
 |nil=>simp only[PE] at h;subst h;simp
 |cons c cs ih=>
  simp only[PE] at h
  obtain⟨u,us',rfl,h1,_,h⟩:=h
  simp [ih h,h1,Nat.succ_mul];omega
theorem PE.append{sz:Nat}{xs ys:List D}{us:List Value}:PE w I sz (xs++ys) us↔∃u v,us=u++v∧PE w I sz xs u∧PE w I sz ys v:=by
 induction xs generalizing us with
 |nil=>exact⟨fun h=>⟨[],us,rfl,by simp [PE],h⟩,by rintro⟨u,v,rfl,h,k⟩;simp only[PE] at h;subst h;exact k⟩
 |cons c cs ih=>
  simp only[List.cons_append,PE]
  constructor
  ·rintro⟨u,us',rfl,h1,h2,h3⟩
   obtain⟨u',v,rfl,h4,h5⟩:=ih.1 h3
   exact⟨u++u',v,by simp,⟨u,u',rfl,h1,h2,h4⟩,h5⟩
  ·rintro⟨u,v,rfl,⟨u',us',rfl,h1,h2,h3⟩,h4⟩
   exact⟨u',us'++v,by simp,h1,h2,ih.2 ⟨us',v,rfl,h3,h4⟩⟩
theorem PE.get{sz:Nat}{xs:List D}{us:List Value}(h:PE w I sz xs us){i:Nat}{x:D}(hx:xs[i]?=some x):
  ∃a u b,us=a++(u++b)∧a.length=i*sz∧u.length=sz∧P1 w I x u∧PE w I sz (xs.take i) a∧PE w I sz (xs.drop (i+1)) b:=by
 have hi:=(Qw.1 hx).1
 have e:xs=xs.take i++x::xs.drop (i+1):=by
  rw[(Qw.1 hx).2.symm];simp
 rw[e] at h
 obtain⟨a,r,rfl,h1,h2⟩:=PE.append.1 h
 simp only[PE] at h2
 obtain⟨u,b,rfl,h3,h4,h5⟩:=h2
 exact⟨a,u,b,rfl,by rw[h1.length,Qj,Nat.min_eq_left (by omega)],h3,h4,h1,h5⟩
theorem P1.one{x:D}{us:List Value}(h:P1 w I x us):∀u∈us,u.oneCell'=true:=by
 cases x<;>simp only[P1] at h
 ·subst h;simp [Value.oneCell']
 ·subst h;simp [Value.oneCell']
 ·subst h;simp [Value.oneCell']
 ·obtain⟨u,rfl,h1,_⟩:=h;simpa using h1
 ·exact h.one
theorem PE.one{sz:Nat}{xs:List D}{us:List Value}(h:PE w I sz xs us):∀u∈us,u.oneCell'=true:=by
 induction xs generalizing us with
 |nil=>simp only[PE] at h;subst h;simp
 |cons c cs ih=>
  simp only[PE] at h
  obtain⟨u,us',rfl,h1,h2,h⟩:=h
  intro x hx
  rcases Qg.1 hx with hx|hx
  ·exact h2.one x hx
  ·exact ih h x hx
theorem PE.take{sz:Nat}{xs:List D}{us:List Value}(n:Nat)(h:PE w I sz xs us):∃u v,us=u++v∧PE w I sz (xs.take n) u∧PE w I sz (xs.drop n) v:=by
 rw[←List.take_append_drop n xs] at h
 exact PE.append.1 h
theorem P1.cells{x:D}{us:List Value}(h:P1 w I x us):PC w I x.cells us:=by
 cases x<;>simp only[P1] at h<;>simp only[D.cells,PC]
 ·subst h;exact⟨_,_,rfl,rfl,by simp [DR],rfl⟩
 ·subst h;exact⟨_,_,rfl,rfl,by simp [DR],rfl⟩
 ·subst h;exact⟨_,_,rfl,rfl,by simp [DR],rfl⟩
 ·obtain⟨u,rfl,h1,h2,h3⟩:=h;exact⟨_,_,rfl,h1,by simp only[DR];exact⟨trivial,h2,h3⟩,rfl⟩
 ·exact h
theorem P1.of_cells{x:D}{us:List Value}{sz:Nat}(ho:XT sz x=true)(h:PC w I x.cells us):P1 w I x us∧us.length=sz:=by
 have hl:=h.length
 cases x<;>simp only[XT,Bool.false_eq_true,Qi,Qk] at ho<;>simp only[D.cells,PC] at h<;>simp only[P1]
 ·obtain⟨u,us',rfl,h1,h2,rfl⟩:=h
  simp only[DR,and_true] at h2;subst h2;exact⟨rfl,by simp [ho]⟩
 ·obtain⟨u,us',rfl,h1,h2,rfl⟩:=h
  simp only[DR,and_true] at h2;subst h2;exact⟨rfl,by simp [ho]⟩
 ·obtain⟨u,us',rfl,h1,h2,rfl⟩:=h
  simp only[DR,and_true] at h2;subst h2;exact⟨rfl,by simp [ho]⟩
 ·obtain⟨u,us',rfl,h1,h2,rfl⟩:=h
  simp only[DR] at h2;exact⟨⟨u,rfl,h1,h2.2⟩,by simp [ho]⟩
 ·exact⟨h,by rw[hl];exact ho.1⟩
theorem PE.replicate{sz:Nat}{x:D}{us:List Value}(h:P1 w I x us)(hl:us.length=sz)(n:Nat):PE w I sz (List.replicate n x) (List.replicate n us).flatten:=by
 induction n with
 |zero=>simp [PE]
 |succ n ih=>simp only[List.replicate_succ,PE,List.flatten_cons];exact⟨us,_,rfl,hl,h,ih⟩
theorem PE.set{sz:Nat}{xs:List D}{us:List Value}(h:PE w I sz xs us){i:Nat}{x y:D}(hx:xs[i]?=some x){u':List Value}(hy:P1 w I y u')(hl:u'.length=sz):
  PE w I sz (xs.set i y) (us.take (i*sz)++(u'++us.drop (i*sz+sz))):=by
 obtain⟨a,u,b,rfl,ha,hu,_,h1,h2⟩:=h.get hx
 have hi:=(Qw.1 hx).1
 have e:xs.set i y=xs.take i++y::xs.drop (i+1):=by
  rw[List.set_eq_take_append_cons_drop,if_pos hi]
 rw[e]
 refine PE.append.2 ⟨a,u'++b,?_,h1,?_⟩
 ·rw[←ha,List.take_left,show a.length+sz=(a++u).length by simp [hu],←QC a u b,List.drop_left]
 ·simp only[PE];exact⟨u',b,rfl,hl,hy,h2⟩
theorem DRs.length{ds:List D}{vs:List Value}{os:List Nat}(h:DRs w I ds vs os):vs.length=ds.length:=by
 induction ds generalizing vs os with
 |nil=>simp only[DRs] at h;simp [h.1]
 |cons c cs ih=>
  simp only[DRs] at h
  obtain⟨v,vs',o,o',rfl,rfl,_,h⟩:=h
  simp [ih h]
theorem PC.of_DRs{ds:List D}{vs:List Value}(h:DRs w I ds vs [])(h1:∀u∈vs,u.oneCell'=true):PC w I ds vs:=by
 induction ds generalizing vs with
 |nil=>simp only[DRs] at h;simpa [PC] using h
 |cons c cs ih=>
  simp only[DRs] at h
  obtain⟨v,vs',o,o',rfl,ho,hd,h⟩:=h
  obtain⟨rfl,rfl⟩:o=[]∧o'=[]:=by simpa using ho.symm
  simp only[PC]
  exact⟨v,vs',rfl,h1 v (by simp),hd,ih h (fun u hu=>h1 u (by simp [hu]))⟩
theorem PC.to_DRs{ds:List D}{vs:List Value}(h:PC w I ds vs):DRs w I ds vs []:=by
 induction ds generalizing vs with
 |nil=>simp only[PC] at h;subst h;simp [DRs]
 |cons c cs ih=>
  simp only[PC] at h
  obtain⟨v,vs',rfl,h1,hd,h⟩:=h
  simp only[DRs]
  exact⟨v,vs',[],[],rfl,rfl,hd,ih h⟩
end
section
variable {w:World} {I:Nat→Prop} {κ:Nat→Option KI}
theorem MRs.length{ds:List D}{vs:List Value}(h:MRs w I κ ds vs):vs.length=ds.length:=by
 induction ds generalizing vs with
 |nil=>simp only[MRs] at h;simp [h]
 |cons c cs ih=>
  simp only[MRs] at h
  obtain⟨v,vs',rfl,_,h⟩:=h
  simp [ih h]
theorem MRs.append{cs ds:List D}{us:List Value}:MRs w I κ (cs++ds) us↔∃u v,us=u++v∧MRs w I κ cs u∧MRs w I κ ds v:=by
 induction cs generalizing us with
 |nil=>exact⟨fun h=>⟨[],us,rfl,by simp [MRs],h⟩,by rintro⟨u,v,rfl,h,k⟩;simp only[MRs] at h;subst h;exact k⟩
 |cons c cs ih=>
  simp only[List.cons_append,MRs]
  constructor
  ·rintro⟨u,us',rfl,h2,h3⟩
   obtain⟨u',v,rfl,h4,h5⟩:=ih.1 h3
   exact⟨u::u',v,rfl,⟨u,u',rfl,h2,h4⟩,h5⟩
  ·rintro⟨u,v,rfl,⟨u',us',rfl,h2,h3⟩,h4⟩
   exact⟨u',us'++v,rfl,h2,ih.2 ⟨us',v,rfl,h3,h4⟩⟩
theorem MRs.take{cs:List D}{us:List Value}(n:Nat)(h:MRs w I κ cs us):MRs w I κ (cs.take n) (us.take n)∧MRs w I κ (cs.drop n) (us.drop n):=by
 have e:=h
 rw[←List.take_append_drop n cs] at e
 obtain⟨u,v,rfl,h1,h2⟩:=MRs.append.1 e
 have hl:=h1.length
 by_cases hn:n≤cs.length
 ·have:u.length=n:=by rw[hl];simp;omega
  subst this;simpa using And.intro h1 h2
 ·have e2:cs.drop n=[]:=by simp;omega
  rw[e2] at h2;simp only[MRs] at h2;subst h2
  have:u.length≤n:=by rw[hl];simp;omega
  simp [QA this,h1,e2,MRs,this]
theorem MRs.get{ds:List D}{vs:List Value}(h:MRs w I κ ds vs){i:Nat}{d:D}(hd:ds[i]?=some d):∃v,vs[i]?=some v∧MR w I κ d v:=by
 induction ds generalizing vs i with
 |nil=>simp at hd
 |cons c cs ih=>
  simp only[MRs] at h
  obtain⟨v,vs',rfl,hc,h⟩:=h
  cases i with
  |zero=>simp at hd;subst hd;exact⟨v,rfl,hc⟩
  |succ i=>simpa using ih h (by simpa using hd)
theorem MRs.of_PC{ds:List D}{vs:List Value}(h:PC w I ds vs):MRs w I κ ds vs:=MRs.of_DRs _ _ h.to_DRs
end
section
variable {B:Base} {κ κ':Nat→Option KI} {hp hp':qHp} {F F':Nat→Prop} {w w':World}
theorem RH.next(h:RH B κ hp F w)(hk:Kle κ κ')(hs:Stp (Jo κ hp w) w w')(hO:∀b,Jo κ' hp' w' b→Jo κ hp w b∨w.heap.size≤b)
  (hfr:∀id,F' id→κ' id=none) (hsz:∀b,Jo κ' hp' w' b→b<w'.heap.size)
  (hent:Keep w w' (Im B κ hp w) (Im B κ' hp' w')→∀id e,lk hp' id=some e→
   (lk hp id=some e∧(e.owned=true→∀q b,κ id=some q→Ow w e q b→w'.heap[b]?=w.heap[b]?))∨ER w' (Im B κ' hp' w') κ' id e)
  (hinj:∀id id' b,OB κ' hp' w' id b→OB κ' hp' w' id' b→id=id'):RH B κ' hp' F' w'∧Nxt B κ κ' hp hp' w w':=by
 have keep:Keep w w' (Im B κ hp w) (Im B κ' hp' w'):=by
  refine⟨fun b ⟨h1,h2,h3⟩=>⟨h1,QL h2 hs.size,fun ho=>?_⟩,fun b ⟨_,h2,h3⟩=>hs.block b h2 h3⟩
  rcases hO b ho with ho|ho
  ·exact h3 ho
  ·omega
 refine⟨⟨⟨?_,?_,?_,?_,?_,fun x cur e fr hg=>let ⟨c1,g1,s1⟩:=h.stp.len x cur e fr hg;let ⟨c2,g2,s2⟩:=hs.len x c1 e fr g1;⟨c2,g2,s2.trans s1⟩,Qt h.stp.drw hs.drw⟩,hfr,?_,?_,hinj⟩,⟨hk,keep⟩⟩
 ·exact hs.os.trans h.stp.os
 ·exact hs.tape.trans h.stp.tape
 ·exact hs.output.trans h.stp.output
 ·exact Qt h.stp.size hs.size
 ·intro b hb hno
  refine (hs.block b (QL hb h.stp.size) (fun ho=>?_)).trans (h.stp.block b hb hno)
  rcases (h.own b ho).1 with ho|ho
  ·exact hno ho
  ·omega
 ·intro id e he
  rcases hent keep id e he with⟨h1,h2⟩|h1
  ·exact (h.ent id e h1).mono keep hk h2
  ·exact h1
 ·intro b ho
  refine⟨?_,hsz b ho⟩
  rcases hO b ho with ho|ho
  ·exact (h.own b ho).1
  ·exact .inr (Qt h.stp.size ho)
theorem RH.place(h:RH B κ hp F w){id:Nat}{e:Ent}(he:lk hp id=some e):∃k,κ id=some k:=by
 have:=h.ent id e he
 cases e<;>simp only[ER] at this
 ·rcases this.2 with⟨h1,_⟩|⟨b,tot,cur,e,us,h1,_⟩<;>exact⟨_,h1⟩
 ·rcases this.2 with⟨h1,_⟩|⟨b,tot,us,h1,_⟩<;>exact⟨_,h1⟩
 ·obtain⟨b,cur,e,h1,_⟩:=this;exact⟨_,h1⟩
 ·obtain⟨b,tot,cur,e,h1,_⟩:=this;exact⟨_,h1⟩
theorem RH.fresh(h:RH B κ hp F w){id:Nat}(hi:F id):lk hp id=none:=by
 cases he:lk hp id with
 |none=>rfl
 |some e=>obtain⟨k,hk⟩:=h.place he;rw[h.fr id hi] at hk;cases hk
theorem RH.same(h:RH B κ hp F w)(hn:∀id,F' id→F id):RH B κ hp F' w:=
 ⟨h.stp,fun id hi=>h.fr id (hn id hi),h.ent,h.own,h.inj⟩
def XW(κ:Nat→Option KI)(n:Nat)(k:KI):Nat→Option KI:=fun id=>if id=n then some k else κ id
theorem XZ{n:Nat}{k:KI}:XW κ n k n=some k:=by simp [XW]
theorem Ys{n:Nat}{k:KI}{id:Nat}(h:id≠n):XW κ n k id=κ id:=by simp [XW,h]
theorem RH.kle(h:RH B κ hp F w){m:Nat}(hm:F m)(k:KI):Kle κ (XW κ m k):=fun id q hq=>by
 have hne:id≠m:=fun e=>by rw[e,h.fr m hm] at hq;cases hq
 rw[Ys hne];exact hq
theorem RH.newNil(h:RH B κ hp F w){m:Nat}(hm:F m)(hn:∀id,F' id→F id∧id≠m)(sz:Nat):RH B (XW κ m (.nil sz)) (up hp m (.arr sz [])) F' w∧Nxt B κ (XW κ m (.nil sz)) hp (up hp m (.arr sz [])) w w:=by
 have hob:∀id b,OB (XW κ m (.nil sz)) (up hp m (.arr sz [])) w id b→id≠m∧OB κ hp w id b:=by
  rintro id b ⟨e,k,h1,h2,h3,h4⟩
  rw[Yw] at h1
  by_cases e:id=m
  ·subst e;rw[XZ] at h3;cases h3;rw[if_pos rfl] at h1;cases h1;have:=h4.own1 rfl;cases this
  ·rw[if_neg e] at h1;rw[Ys e] at h3;exact⟨e,_,_,h1,h2,h3,h4⟩
 refine h.next (h.kle hm _) (Stp.refl _ _) (fun b ⟨id,ho⟩=>.inl ⟨id,(hob id b ho).2⟩) (fun id hi=>?_) (fun b ⟨id,ho⟩=>(h.own b ⟨id,(hob id b ho).2⟩).2) (fun _ id e he=>?_) (fun id id' b h1 h2=>h.inj id id' b (hob _ _ h1).2 (hob _ _ h2).2)
 ·rw[Ys (hn id hi).2];exact h.fr id (hn id hi).1
 ·rw[Yw] at he
  by_cases e:id=m
  ·subst e
   simp only[if_true,Qb] at he
   subst he
   exact .inr (by simp only[ER];exact⟨Nat.zero_le _,.inl ⟨XZ,trivial⟩⟩)
  ·rw[if_neg e] at he;exact .inl ⟨he,fun _ _ _ _ _=>rfl⟩
theorem RH.new(h:RH B κ hp F w){cur:Array Value}{ty:TypeId}(hw:w'.heap=w.heap.push (.cells cur ty))(h1:w'.os=w.os)(h2:w'.tape=w.tape)(h3:w'.output=w.output∧w.drawn≤w'.drawn)
  {ki:KI} (hki:ki.blk=some w.heap.size) {m:Nat} (hm:F m) (hn:∀id,F' id→F id∧id≠m) {ent:Ent}
  (her:Keep w w' (Im B κ hp w) (Im B (XW κ m ki) (up hp m ent) w')→w'.heap[w.heap.size]?=some (.cells cur ty (0,0))→ER w' (Im B (XW κ m ki) (up hp m ent) w') (XW κ m ki) m ent) (hin:∀b,¬InB w' ent ki b:=by exact fun _ h=>False.elim h):
  RH B (XW κ m ki) (up hp m ent) F' w'∧Nxt B κ (XW κ m ki) hp (up hp m ent) w w':=by
 have XK:∀b,b<w.heap.size→w'.heap[b]?=w.heap[b]?:=fun b hb=>by rw[hw,Array.getElem?_push_lt hb];simp [hb]
 have hob:∀id b,OB (XW κ m ki) (up hp m ent) w' id b→(id=m∧b=w.heap.size)∨(id≠m∧OB κ hp w id b):=by
  rintro id b ⟨e,k,h1,h2,h3,h4⟩
  rw[Yw] at h1
  by_cases e:id=m
  ·subst e;rw[XZ] at h3;cases h3;rw[if_pos rfl] at h1;cases h1
   rcases h4 with h4|h4
   ·rw[hki] at h4;cases h4;exact .inl ⟨rfl,rfl⟩
   ·exact absurd h4 (hin _)
  ·rw[if_neg e] at h1;rw[Ys e] at h3
   exact .inr ⟨e,_,_,h1,h2,h3,h4.congr fun b0 hb0=>XK b0 (h.own b0 ⟨id,_,_,h1,h2,h3,.inl hb0⟩).2⟩
 have hlt:∀id b,OB κ hp w id b→b<w.heap.size:=fun id b ho=>(h.own b ⟨id,ho⟩).2
 refine h.next (h.kle hm _) ⟨h1,h2,h3.1,by rw[hw];simp,fun b hb _=>XK b hb,fun b c e fr hg=>⟨c,by rw[XK b ((QK.1 hg).1)];exact hg,rfl⟩,h3.2⟩ (fun b ⟨id,ho⟩=>?_) (fun id hi=>?_) (fun b ⟨id,ho⟩=>?_) (fun keep id e he=>?_) (fun id id' b g1 g2=>?_)
 ·rcases hob id b ho with⟨_,rfl⟩|⟨_,ho⟩
  ·exact .inr (Qf _)
  ·exact .inl ⟨id,ho⟩
 ·rw[Ys (hn id hi).2];exact h.fr id (hn id hi).1
 ·rw[hw];simp only[Array.size_push]
  rcases hob id b ho with⟨_,rfl⟩|⟨_,ho⟩
  ·omega
  ·have:=hlt id b ho;omega
 ·rw[Yw] at he
  by_cases e:id=m
  ·subst e
   simp only[if_true,Qb] at he
   subst he
   exact .inr (her keep (by rw[hw];simp))
  ·rw[if_neg e] at he
   exact .inl ⟨he,fun ho q b hq hb=>XK b (hlt id b ⟨_,_,he,ho,hq,hb⟩)⟩
 ·rcases hob _ _ g1 with⟨a1,a2⟩|⟨_,k1⟩<;>rcases hob _ _ g2 with⟨b1,b2⟩|⟨_,k2⟩
  ·rw[a1,b1]
  ·have:=hlt _ _ k2;omega
  ·have:=hlt _ _ k1;omega
  ·exact h.inj _ _ _ k1 k2
theorem RH.change(h:RH B κ hp F w){id b:Nat}(ho:OB κ hp w id b)(hs:Stp (·=b) w w')(hn:∀id,F' id→F id){ent:Ent}
  (her:Keep w w' (Im B κ hp w) (Im B κ (up hp id ent) w')→ER w' (Im B κ (up hp id ent) w') κ id ent) (hen:ent.own1=true:=by rfl):
  RH B κ (up hp id ent) F' w'∧Nxt B κ κ hp (up hp id ent) w w':=by
 obtain⟨e0,k0,g1,g2,g3,g4⟩:=ho
 have hob:∀id' b',OB κ (up hp id ent) w' id' b'→OB κ hp w id' b':=by
  rintro id' b' ⟨e,k,h1,h2,h3,h4⟩
  rw[Yw] at h1
  by_cases e:id'=id
  ·subst e;rw[if_pos rfl] at h1;cases h1;exact⟨_,_,g1,g2,h3,.inl (h4.own1 hen)⟩
  ·rw[if_neg e] at h1
   refine⟨_,_,h1,h2,h3,h4.congr fun b0 hb0=>?_⟩
   have hoo:OB κ hp w id' b0:=⟨_,_,h1,h2,h3,.inl hb0⟩
   exact hs.block b0 (h.own b0 ⟨id',hoo⟩).2 (fun hbb=>e (h.inj _ _ _ hoo (by rw[hbb];exact⟨_,_,g1,g2,g3,g4⟩)))
 refine h.next (fun _ _ h=>h) (hs.mono fun x _ hx=>⟨id,by subst hx;exact⟨_,_,g1,g2,g3,g4⟩⟩) (fun b' ⟨id',ho⟩=>.inl ⟨id',hob _ _ ho⟩) (fun id hi=>h.fr id (hn id hi)) (fun b' ⟨id',ho⟩=>QL (h.own b' ⟨id',hob _ _ ho⟩).2 hs.size) (fun keep id' e he=>?_) (fun i i' b h1 h2=>h.inj i i' b (hob _ _ h1) (hob _ _ h2))
 rw[Yw] at he
 by_cases e:id'=id
 ·subst e
  simp only[if_true,Qb] at he
  subst he
  exact .inr (her keep)
 ·rw[if_neg e] at he
  refine .inl ⟨he,fun ho q b' hq hb'=>hs.block b' (h.own b' ⟨id',_,_,he,ho,hq,hb'⟩).2 (fun hbb=>e ?_)⟩
  subst hbb
  exact h.inj _ _ _ ⟨_,_,he,ho,hq,hb'⟩ ⟨_,_,g1,g2,g3,g4⟩
theorem RH.move(h:RH B κ hp F w){id b:Nat}(ho:OB κ hp w id b)(hs:Stp (·=b) w w'){ki:KI}(hki:ki.blk=some b){m:Nat}(hm:F m)(hn:∀id,F' id→F id∧id≠m){ent:Ent}
  (her:Keep w w' (Im B κ hp w) (Im B (XW κ m ki) (up (rm hp id) m ent) w')→ER w' (Im B (XW κ m ki) (up (rm hp id) m ent) w') (XW κ m ki) m ent) (hen:ent.own1=true:=by rfl):
  RH B (XW κ m ki) (up (rm hp id) m ent) F' w'∧Nxt B κ (XW κ m ki) hp (up (rm hp id) m ent) w w':=by
 obtain⟨e0,k0,g1,g2,g3,g4⟩:=ho
 have hob:∀id' b',OB (XW κ m ki) (up (rm hp id) m ent) w' id' b'→(id'=m∧b'=b)∨(id'≠m∧id'≠id∧OB κ hp w id' b'):=by
  rintro id' b' ⟨e,k,h1,h2,h3,h4⟩
  rw[Yw] at h1
  by_cases e:id'=m
  ·subst e;rw[XZ] at h3;cases h3;rw[if_pos rfl] at h1;cases h1
   have h4:=h4.own1 hen
   rw[hki] at h4;cases h4;exact .inl ⟨rfl,rfl⟩
  ·rw[if_neg e,ZG] at h1
   rw[Ys e] at h3
   by_cases e2:id'=id
   ·simp [e2] at h1
   ·rw[if_neg e2] at h1
    refine .inr ⟨e,e2,_,_,h1,h2,h3,h4.congr fun b0 hb0=>?_⟩
    have hoo:OB κ hp w id' b0:=⟨_,_,h1,h2,h3,.inl hb0⟩
    exact hs.block b0 (h.own b0 ⟨id',hoo⟩).2 (fun hbb=>e2 (h.inj _ _ _ hoo (by rw[hbb];exact⟨_,_,g1,g2,g3,g4⟩)))
 have hob0:OB κ hp w id b:=⟨_,_,g1,g2,g3,g4⟩
 refine h.next (h.kle hm _) (hs.mono fun x _ hx=>⟨id,by subst hx;exact hob0⟩) (fun b' ⟨id',ho⟩=>.inl ?_) (fun i hi=>?_) (fun b' ⟨id',ho⟩=>QL (h.own b' ?_).2 hs.size) (fun keep id' e he=>?_) (fun i i' b' h1 h2=>?_)
 ·rcases hob _ _ ho with⟨_,rfl⟩|⟨_,_,ho⟩
  ·exact⟨_,hob0⟩
  ·exact⟨_,ho⟩
 ·rw[Ys (hn i hi).2];exact h.fr i (hn i hi).1
 ·rcases hob _ _ ho with⟨_,rfl⟩|⟨_,_,ho⟩
  ·exact⟨_,hob0⟩
  ·exact⟨_,ho⟩
 ·rw[Yw] at he
  by_cases e:id'=m
  ·subst e
   simp only[if_true,Qb] at he
   subst he
   exact .inr (her keep)
  ·rw[if_neg e,ZG] at he
   by_cases e2:id'=id
   ·simp [e2] at he
   ·rw[if_neg e2] at he
    refine .inl ⟨he,fun ho q b' hq hb'=>hs.block b' (h.own b' ⟨id',_,_,he,ho,hq,hb'⟩).2 (fun hbb=>e2 ?_)⟩
    subst hbb
    exact h.inj _ _ _ ⟨_,_,he,ho,hq,hb'⟩ hob0
 ·rcases hob _ _ h1 with⟨a1,a2⟩|⟨_,n1,k1⟩<;>rcases hob _ _ h2 with⟨b1,b2⟩|⟨_,n2,k2⟩
  ·rw[a1,b1]
  ·rw[a2] at k2;exact absurd (h.inj _ _ _ k2 hob0) n2
  ·rw[b2] at k1;exact absurd (h.inj _ _ _ k1 hob0) n1
  ·exact h.inj _ _ _ k1 k2
theorem RH.forget(h:RH B κ hp F w)(id:Nat):RH B κ (rm hp id) F w∧Nxt B κ κ hp (rm hp id) w w:=by
 have hob:∀id' b',OB κ (rm hp id) w id' b'→OB κ hp w id' b':=by
  rintro id' b' ⟨e,k,h1,r⟩
  rw[ZG] at h1
  split at h1
  ·cases h1
  ·exact⟨e,k,h1,r⟩
 refine h.next (fun _ _ h=>h) (Stp.refl _ _) (fun b ⟨i,ho⟩=>.inl ⟨i,hob _ _ ho⟩) h.fr (fun b ⟨i,ho⟩=>(h.own b ⟨i,hob _ _ ho⟩).2) (fun _ i e he=>.inl ⟨?_,fun _ _ _ _ _=>rfl⟩) (fun i i' b h1 h2=>h.inj i i' b (hob _ _ h1) (hob _ _ h2))
 rw[ZG] at he
 split at he
 ·cases he
 ·exact he
theorem RH.freeze(h:RH B κ hp F w){id:Nat}{e:Ent}(he:lk hp id=some e):RH B κ (up hp id e.frozen) F w∧Nxt B κ κ hp (up hp id e.frozen) w w:=by
 cases e with
 |imm sz xs=>
  have hid:∀i,lk (up hp id (Ent.imm sz xs).frozen) i=lk hp i:=fun i=>by
   rw[Yw];split
   ·rename_i hi;subst hi;exact he.symm
   ·rfl
  have hob:∀i b,OB κ (up hp id (Ent.imm sz xs).frozen) w i b↔OB κ hp w i b:=fun i b=>by simp only[OB,hid]
  exact h.next (fun _ _ h=>h) (Stp.refl _ _) (fun b ⟨i,ho⟩=>.inl ⟨i,(hob _ _).1 ho⟩) h.fr (fun b ⟨i,ho⟩=>(h.own b ⟨i,(hob _ _).1 ho⟩).2) (fun _ i e he=>.inl ⟨by rw[hid] at he;exact he,fun _ _ _ _ _=>rfl⟩) (fun i i' b h1 h2=>h.inj i i' b ((hob _ _).1 h1) ((hob _ _).1 h2))
 |box cs=>
  have hid:∀i,lk (up hp id (Ent.box cs).frozen) i=lk hp i:=fun i=>by
   rw[Yw];split
   ·rename_i hi;subst hi;exact he.symm
   ·rfl
  have hob:∀i b,OB κ (up hp id (Ent.box cs).frozen) w i b↔OB κ hp w i b:=fun i b=>by simp only[OB,hid]
  exact h.next (fun _ _ h=>h) (Stp.refl _ _) (fun b ⟨i,ho⟩=>.inl ⟨i,(hob _ _).1 ho⟩) h.fr (fun b ⟨i,ho⟩=>(h.own b ⟨i,(hob _ _).1 ho⟩).2) (fun _ i e he=>.inl ⟨by rw[hid] at he;exact he,fun _ _ _ _ _=>rfl⟩) (fun i i' b h1 h2=>h.inj i i' b ((hob _ _).1 h1) ((hob _ _).1 h2))
 |nst sz l=>
  have hid:∀i,lk (up hp id (Ent.nst sz l).frozen) i=lk hp i:=fun i=>by
   rw[Yw];split
   ·rename_i hi;subst hi;exact he.symm
   ·rfl
  have hob:∀i b,OB κ (up hp id (Ent.nst sz l).frozen) w i b↔OB κ hp w i b:=fun i b=>by simp only[OB,hid]
  exact h.next (fun _ _ h=>h) (Stp.refl _ _) (fun b ⟨i,ho⟩=>.inl ⟨i,(hob _ _).1 ho⟩) h.fr (fun b ⟨i,ho⟩=>(h.own b ⟨i,(hob _ _).1 ho⟩).2) (fun _ i e he=>.inl ⟨by rw[hid] at he;exact he,fun _ _ _ _ _=>rfl⟩) (fun i i' b h1 h2=>h.inj i i' b ((hob _ _).1 h1) ((hob _ _).1 h2))
 |arr sz xs=>
  have hob:∀i b,OB κ (up hp id (Ent.arr sz xs).frozen) w i b→i≠id∧OB κ hp w i b:=by
   rintro i b ⟨e,k,h1,h2,r⟩
   rw[Yw] at h1
   split at h1
   ·cases h1;simp [Ent.frozen,Ent.owned] at h2
   ·rename_i hi;exact⟨hi,e,k,h1,h2,r⟩
  refine h.next (fun _ _ h=>h) (Stp.refl _ _) (fun b ⟨i,ho⟩=>.inl ⟨i,(hob _ _ ho).2⟩) h.fr (fun b ⟨i,ho⟩=>(h.own b ⟨i,(hob _ _ ho).2⟩).2) (fun keep i e' he'=>?_) (fun i i' b h1 h2=>h.inj i i' b (hob _ _ h1).2 (hob _ _ h2).2)
  rw[Yw] at he'
  by_cases hi:i=id
  ·subst hi
   simp only[if_true,Qb] at he'
   subst he'
   have hr:=h.ent i _ he
   simp only[ER] at hr
   refine .inr ?_
   simp only[Ent.frozen,ER]
   refine⟨hr.1,hr.2.imp id ?_⟩
   rintro⟨b,tot,cur,ty,us,g1,g2,g3,g4,g5⟩
   have ho:OB κ hp w i b:=⟨_,_,he,rfl,g1,.inl rfl⟩
   refine⟨b,tot,us,g1,⟨?_,(h.own b ⟨i,ho⟩).2,?_⟩,g4,PE.mono keep _ _ _ g5⟩
   ·rcases (h.own b ⟨i,ho⟩).1 with g|g
    ·exact .inr (.inl g)
    ·exact .inr (.inr g)
   ·rintro⟨i',ho'⟩
    obtain⟨hne,ho'⟩:=hob _ _ ho'
    exact hne (h.inj _ _ _ ho' ho)
  ·rw[if_neg hi] at he'
   exact .inl ⟨he',fun _ _ _ _ _=>rfl⟩
theorem RH.freezes(ids:List Nat):∀{hp:qHp},RH B κ hp F w→RH B κ (Xd ids hp) F w∧Nxt B κ κ hp (Xd ids hp) w w:=by
 induction ids with
 |nil=>exact fun h=>⟨h,Nxt.refl _ _ _ _⟩
 |cons i l ih=>
  intro hp h
  simp only[Xd]
  cases he:lk hp i with
  |none=>exact ih h
  |some e=>
   obtain⟨h1,k1⟩:=h.freeze he
   obtain⟨h2,k2⟩:=ih h1
   exact⟨h2,k1.trans k2⟩
end
set_option linter.unusedVariables false
set_option linter.unusedSimpArgs false
set_option linter.unnecessarySimpa false
section
variable {P:Program} {B:Base} {κ:Nat→Option KI} {hp hp':qHp} {F:Nat→Prop} {w:World} {sl:qSl} {tm:Array Value} {df:List Deferred} {n:Nat} {d:D}
def Res(P:Program)(B:Base)(κ:Nat→Option KI)(hp hp':qHp)(F':Nat→Prop)(w:World)(r:Result Next)(d:D):Prop:=
 ∃κ' v w',(r=.ok (.value v) w'∨(r=.ok .skip w'∧v=undef))∧RH B κ' hp' F' w'∧Nxt B κ κ' hp hp' w w'∧MR w' (Im B κ' hp' w') κ' d v
theorem Res.pure(h:RH B κ hp F w){F':Nat→Prop}(hF:∀id,F' id→F id){v:Value}{r:Result Next}(hr:r=.ok (.value v) w)(hm:MR w (Im B κ hp w) κ d v):Res P B κ hp hp F' w r d:=
 ⟨κ,v,w,.inl hr,h.same hF,Nxt.refl _ _ _ _,hm⟩
theorem QPG{v:Value}(h:cD v=some d){I:Nat→Prop}:MR w I κ d v:=by
 unfold cD at h
 split at h<;>simp only[Qb,reduceCtorEq] at h<;>subst h<;>simp [MR]
theorem XD(hs:RS B κ hp w sl tm){xo:Operand}{x:X}(hx:cX xo=some x)(he:ev sl x=some d):MR w (Im B κ hp w) κ d (Act.eval ⟨tm,df⟩ xo):=by
 cases xo with
 |tmp t=>
  simp only[cX,Qb] at hx
  subst hx
  obtain⟨v,hv,hm⟩:=hs.sl t d he
  simpa [Act.eval,hv] using hm
 |const v=>
  simp only[cX] at hx
  cases hc:cD v with
  |none=>simp [hc] at hx
  |some e=>
   simp only[hc,Option.map_some,Qb] at hx
   subst hx
   simp only[ev,Qb] at he
   subst he
   exact QPG hc
 |func f=>
  simp only[cX,Qb] at hx
  subst hx
  simp only[ev,Qb] at he
  subst he
  simp only[MR,Act.eval]
  exact⟨#[],rfl,by simp [MRs]⟩
 |global g=>simp [cX] at hx
theorem MR.int{I:Nat→Prop}{k:IntKind}{m:Int}{v:Value}:MR w I κ (.int k m) v↔v=.int k m:=by simp only[MR]
theorem MR.bool{I:Nat→Prop}{c:Bool}{v:Value}:MR w I κ (.bool c) v↔v=.bool c:=by simp only[MR]
theorem QPH(k:IntKind)(a b:Int):(Op.intBits .and k a b).run P w=.ok (.int k (k.wrap (BitVec.ofInt k.bits a&&&BitVec.ofInt k.bits b).toNat)) w:=rfl
theorem QPI(k:IntKind)(a b:Int):(Op.intBits .or k a b).run P w=.ok (.int k (k.wrap (BitVec.ofInt k.bits a|||BitVec.ofInt k.bits b).toNat)) w:=rfl
theorem QPJ(k:IntKind)(a b:Int):(Op.intBits .xor k a b).run P w=.ok (.int k (k.wrap (BitVec.ofInt k.bits a ^^^ BitVec.ofInt k.bits b).toNat)) w:=rfl
theorem QPK{op:BinOp}{t:TypeId}{k:IntKind}{a b:Int}(h:X9 op k a b=some d):∃v,(binOp op t (.int k a) (.int k b)).run P w=.ok v w∧∀I,MR w I κ d v:=by
 cases op<;>simp only[X9,Qb,reduceCtorEq] at h
 case quo=>
  split at h
  ·cases h
  ·rename_i hb;simp only[Qb] at h;subst h
   exact⟨_,by simp [binOp,Op.intDiv,hb];rfl,fun I=>by simp [MR]⟩
 case rem=>
  split at h
  ·cases h
  ·rename_i hb;simp only[Qb] at h;subst h
   exact⟨_,by simp [binOp,Op.intDiv,hb];rfl,fun I=>by simp [MR]⟩
 all_goals subst h
 case add=>exact⟨_,by simp [binOp,Op.intArith];rfl,fun I=>by simp [MR]⟩
 case sub=>exact⟨_,by simp [binOp,Op.intArith];rfl,fun I=>by simp [MR]⟩
 case mul=>exact⟨_,by simp [binOp,Op.intArith];rfl,fun I=>by simp [MR]⟩
 case and=>exact⟨_,by simp [binOp,QPH];rfl,fun I=>by simp [MR]⟩
 case or=>exact⟨_,by simp [binOp,QPI];rfl,fun I=>by simp [MR]⟩
 case xor=>exact⟨_,by simp [binOp,QPJ];rfl,fun I=>by simp [MR]⟩
 all_goals exact⟨_,by simp [binOp,Op.intCmp];rfl,fun I=>by simp [MR];try rfl⟩
theorem QPL{op:BinOp}{t:TypeId}{x y:Operand}{a b:D}{va vb:Value}{I:Nat→Prop}(ha:MR w I κ a va)(hb:MR w I κ b vb)(h:YA op a b=some d):
  ∃v,(do eqGuard op t x y va vb;binOp op t va vb:Sem Value).run P w=.ok v w∧∀I,MR w I κ d v:=by
 cases a<;>cases b<;>simp only[YA,reduceCtorEq] at h
 rename_i k a k' b
 simp only[MR.int] at ha hb
 subst ha;subst hb
 have hg:(eqGuard op t x y (.int k a) (.int k' b)).run P w=.ok () w:=by cases op<;>simp [eqGuard]
 simp only[Sem.run_bind,hg,Result.andThen_ok]
 cases op
 case shl=>
  simp only at h
  split at h
  ·cases h
  ·rename_i hb;simp only[Qb] at h;subst h
   exact⟨_,by simp [binOp,Op.shift,hb];rfl,fun I=>by simp [MR]⟩
 case shr=>
  simp only at h
  split at h
  ·cases h
  ·rename_i hb;simp only[Qb] at h;subst h
   exact⟨_,by simp [binOp,Op.shift,hb];rfl,fun I=>by simp [MR]⟩
 all_goals
  simp only at h
  split at h
  ·rename_i hk;subst hk;exact QPK h
  ·cases h
theorem QPM{neg:Bool}{t:TypeId}(ht:P.underlying t=some .bool){x y:Operand}{a b:D}{va vb:Value}{I:Nat→Prop}(ha:MR w I κ a va)(hb:MR w I κ b vb)(h:QaR neg a b=some d):
  ∃v,(do eqGuard (if neg then .neq else .eql) t x y va vb;binOp (if neg then .neq else .eql) t va vb:Sem Value).run P w=.ok v w∧∀I,MR w I κ d v:=by
 cases a<;>cases b<;>simp only[QaR,reduceCtorEq] at h
 rename_i a b
 simp only[MR.bool] at ha hb
 subst ha;subst hb
 simp only[Qb] at h
 subst h
 have hg:∀op,(eqGuard op t x y (.bool a) (.bool b)).run P w=.ok () w:=fun op=>by cases op<;>simp [eqGuard]
 simp only[Sem.run_bind,hg,Result.andThen_ok]
 have he:(Op.equal t (.bool a) (.bool b)).run P w=.ok (a==b) w:=by
  unfold Op.equal Op.maxDepth;exact run_equalIn_bool' w 9999 t a b ht
 cases neg
 ·refine⟨.bool (a==b),?_,fun I=>?_⟩
  ·simp [binOp,he]
  ·simp only[MR];cases a<;>cases b<;>rfl
 ·refine⟨.bool (!(a==b)),?_,fun I=>?_⟩
  ·simp [binOp,he]
  ·simp only[MR];cases a<;>cases b<;>rfl
theorem Qnh{dp:Nat}:∀(fs:List Field)(i:Nat)(xs ys:Array Value)(a b:List D)(c:Bool),Qdf P fs i=true→YN a b=some c→a.length=fs.length→
  MRs w (fun _=>True) (fun _=>none) a (xs.toList.drop i)→MRs w (fun _=>True) (fun _=>none) b (ys.toList.drop i)→(Op.eqFields (dp+1) xs ys fs).run P w=.ok c w
 |[],i,xs,ys,a,b,c,_,h,hl,_,_=>by
  have:a=[]:=List.eq_nil_of_length_eq_zero hl
  subst this
  cases b with
  |nil=>simp only[YN,Qb] at h;subst h;simp [Op.eqFields]
  |cons b l=>simp [YN] at h
 |f::fs,i,xs,ys,a,b,c,hf,h,hl,hx,hy=>by
  simp only[Qdf,Qna,Qi,bne_iff_ne,ne_eq,beq_iff_eq] at hf
  obtain⟨⟨⟨hn,ho⟩,ht⟩,hfs⟩:=hf
  cases a with
  |nil=>simp at hl
  |cons a l=>
   cases b with
   |nil=>cases a<;>simp [YN] at h
   |cons b m=>
    cases a<;>cases b<;>simp only[YN,reduceCtorEq] at h
    rename_i k p k' q
    split at h
    ·rename_i hk
     subst hk
     cases hc:YN l m with
     |none=>simp [hc] at h
     |some c'=>
      simp only[hc,Option.map_some,Qb] at h
      subst h
      simp only[MRs,MR] at hx hy
      obtain⟨v,vs',hv,rfl,hx'⟩:=hx
      obtain⟨u,us',hu,rfl,hy'⟩:=hy
      have gx:xs[i]?=some (.int k p):=by
       have:=congrArg (fun l=>l[0]?) hv;simpa using this
      have gy:ys[i]?=some (.int k q):=by
       have:=congrArg (fun l=>l[0]?) hu;simpa using this
      have ex:xs.toList.drop (i+1)=vs':=by rw[←List.drop_drop,hv];rfl
      have ey:ys.toList.drop (i+1)=us':=by rw[←List.drop_drop,hu];rfl
      cases hty:P.underlying f.type with
      |none=>simp [hty] at ht
      |some d=>
       cases d<;>simp [hty] at ht
       rename_i kk
       have p1:(part f.type xs f.offset).run P w=.ok (.int k p) w:=by
        simp [part,Go.isAgg,run_underlying hty,ho,gx]
       have p2:(part f.type ys f.offset).run P w=.ok (.int k q) w:=by
        simp [part,Go.isAgg,run_underlying hty,ho,gy]
       have p3:(Op.equalIn (dp+1) f.type (.int k p) (.int k q)).run P w=.ok (p==q) w:=run_equalIn_int w dp f.type k kk p q hty
       have ih:=Qnh (dp:=dp) fs (i+1) xs ys l m c' hfs hc (by simpa using hl) (by rw[ex];exact hx') (by rw[ey];exact hy')
       simp only[Op.eqFields,ne_eq,hn,not_false_eq_true,if_true,Sem.run_bind,p1,p2,p3,Result.andThen_ok,Sem.run_ite]
       by_cases hpq:p=q
       ·subst hpq;simpa using ih
       ·have:(p==q)=false:=by simpa using hpq
        simp [this,hpq]
    ·cases h
theorem MRs.scalar{I:Nat→Prop}{a b:List D}{c:Bool}(h:YN a b=some c):∀{vs us:List Value},MRs w I κ a vs→MRs w I κ b us→
  MRs w (fun _=>True) (fun _=>none) a vs∧MRs w (fun _=>True) (fun _=>none) b us:=by
 induction a generalizing b c with
 |nil=>
  cases b with
  |nil=>intro vs us h1 h2;simpa [MRs] using And.intro h1 h2
  |cons b m=>simp [YN] at h
 |cons a l ih=>
  cases b with
  |nil=>cases a<;>simp [YN] at h
  |cons b m=>
   cases a<;>cases b<;>simp only[YN,reduceCtorEq] at h
   split at h
   ·cases hc:YN l m with
    |none=>simp [hc] at h
    |some c'=>
     intro vs us h1 h2
     simp only[MRs,MR] at h1 h2 ⊢
     obtain⟨v,vs',rfl,rfl,h1⟩:=h1
     obtain⟨u,us',rfl,rfl,h2⟩:=h2
     obtain⟨g1,g2⟩:=ih hc h1 h2
     exact⟨⟨_,_,rfl,rfl,g1⟩,⟨_,_,rfl,rfl,g2⟩⟩
   ·cases h
theorem QPN{neg:Bool}{t:TypeId}{m:Nat}(ht:Qdg P t=some m){x y:Operand}{a b:List D}{va vb:Value}{I:Nat→Prop}(ha:MR w I κ (.agg a) va)(hb:MR w I κ (.agg b) vb){c:Bool}
  (h:YN a b=some c) (hl:a.length=m):
  ∃v,(do eqGuard (if neg then .neq else .eql) t x y va vb;binOp (if neg then .neq else .eql) t va vb:Sem Value).run P w=.ok v w∧∀I,MR w I κ (.bool (if neg then !c else c)) v:=by
 simp only[MR] at ha hb
 obtain⟨xs,rfl,_,hx⟩:=ha
 obtain⟨ys,rfl,_,hy⟩:=hb
 unfold Qdg at ht
 split at ht
 ·rename_i fs hfs
  split at ht
  ·rename_i hc
   simp only[Qb] at ht
   simp only[Qi,Bool.not_eq_true'] at hc
   obtain⟨⟨h1,h2⟩,h3⟩:=hc
   obtain⟨gx,gy⟩:=MRs.scalar h hx hy
   have hfo:P.underlying t=some (.struct (P.fieldsOf t)):=by unfold Program.fieldsOf;simp [hfs]
   have hff:(P.fieldsOf t).toList=fs.toList:=by unfold Program.fieldsOf;simp [hfs]
   have he:=Qnh (P:=P) (w:=w) (dp:=9998) fs.toList 0 xs ys a b c h1 h (by rw[hl,ht]) (by simpa using gx) (by simpa using gy)
   have hq:(Op.equalIn 10000 t (.agg xs) (.agg ys)).run P w=.ok c w:=by
    rw[run_equalIn_agg w 9999 t xs ys hfo h2,hff];exact he
   have hg:=fun op=>run_eqGuard_agg (P:=P) w op t x y xs ys h3
   simp only[Sem.run_bind,hg,Result.andThen_ok]
   cases neg
   ·exact⟨.bool c,by simp [run_eql_struct,hq],fun I=>by simp [MR]⟩
   ·exact⟨.bool (!c),by simp [run_neq_struct,hq],fun I=>by simp [MR]⟩
  ·cases ht
 ·cases ht
end
end Go.Am
