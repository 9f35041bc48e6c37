/- Contracts and what they rest on: AmPf. -/
import Derived.Test.YtgllpjliaepbdaaGreatAmPe
import Derived.Lib.SliceRun
import Derived.WalkSpells
set_option linter.unusedVariables false
set_option linter.unusedSimpArgs false
set_option linter.unnecessarySimpa false
namespace Go.Am
open Go
abbrev Hp:=List (Nat×Ent)
section
variable {P:Program} {B:Base} {κ:Nat→Option KI} {hp0 hp hp' hp'':Hp} {F:Nat→Prop} {w:World} {d e:D} {v:Value}
def Sub(hp hp0:Hp):Prop:=∀id e,lk hp id=some e→lk hp0 id=some e
theorem Sub.ob(h:Sub hp hp0){id b:Nat}(ho:OB κ hp w id b):OB κ hp0 w id b:=let ⟨e,k,h1,h2⟩:=ho;⟨e,k,h _ _ h1,h2⟩
theorem Sub.trans{hp1:Hp}(h:Sub hp hp1)(k:Sub hp1 hp0):Sub hp hp0:=fun id e he=>k id e (h id e he)
structure Gone(w:World)(κ:Nat→Option KI)(hp hp':Hp)(os:List Nat):Prop where
 sub:Sub hp' hp
 nd:os.Nodup
 own:∀b∈os,∃id,OB κ hp w id b∧lk hp' id=none
theorem Gone.none:Gone w κ hp hp []:=⟨fun _ _ h=>h,List.nodup_nil,by simp⟩
theorem Gone.trans(h:RH B κ hp0 F w)(hs:Sub hp hp0){os os':List Nat}(g:Gone w κ hp hp' os)(k:Gone w κ hp' hp'' os'):Gone w κ hp hp'' (os++os'):=by
 refine⟨k.sub.trans g.sub,?_,fun b hb=>?_⟩
 ·rw[Qy]
  refine⟨g.nd,k.nd,fun a ha b hb hab=>?_⟩
  subst hab
  obtain⟨i,h1,h2⟩:=g.own a ha
  obtain⟨j,h3,h4⟩:=k.own a hb
  have:=h.inj _ _ _ (hs.ob h1) ((g.sub.trans hs).ob h3)
  subst this
  obtain⟨e,q,h5,_⟩:=h3
  rw[h2] at h5;cases h5
 ·rcases Qd.1 hb with hb|hb
  ·obtain⟨i,h1,h2⟩:=g.own b hb
   refine⟨i,h1,?_⟩
   cases hl:lk hp'' i with
   |none=>rfl
   |some e=>rw[k.sub i e hl] at h2;cases h2
  ·obtain⟨i,h1,h2⟩:=k.own b hb
   exact⟨i,g.sub.ob h1,h2⟩
theorem Gone.rm{id b:Nat}(ho:OB κ hp w id b):Gone w κ hp (rm hp id) [b]:=
 ⟨fun i e he=>by rw[Yo] at he;split at he;cases he;exact he,by simp,fun b' hb=>by simp at hb;subst hb;exact⟨id,ho,by rw[Yo,if_pos rfl]⟩⟩
theorem Gone.rmNone{id:Nat}:Gone w κ hp (Am.rm hp id) []:=
 ⟨fun i e he=>by rw[Yo] at he;split at he;cases he;exact he,by simp,by simp⟩
theorem PE.take'{I:Nat→Prop}{sz:Nat}{xs:List D}{us:List Value}{b off:Nat}(lo len:Nat)(h:PE w I sz xs us)(hm:Mem w b off us):∃us',Mem w b (off+(xs.take lo).length*sz) us'∧PE w I sz ((xs.drop lo).take len) us':=by
 obtain⟨u,v,rfl,h1,h2⟩:=h.take lo
 obtain⟨u2,v2,rfl,h3,h4⟩:=h2.take len
 have hm2:=(Mem.append.1 hm).2
 rw[h1.length] at hm2
 exact⟨u2,(Mem.append.1 hm2).1,h3⟩
theorem QhJ(h:RH B κ hp0 F w){id lo len sz:Nat}{xs:List D}(he:lk hp0 id=some (.imm sz xs))(hd:MR w (Im B κ hp0 w) κ (.sl id lo len) v)(hle:lo+len≤xs.length):
  DR w (Im B κ hp0 w) (.lst sz ((xs.drop lo).take len)) v []:=by
 have hent:=h.ent id _ he
 simp only[ER] at hent
 simp only[MR] at hd
 have hlen:((xs.drop lo).take len).length=len:=by simp;omega
 simp only[DR]
 refine⟨trivial,by rw[hlen];omega,?_⟩
 rcases hd with⟨sz',h1,rfl,rfl,rfl⟩|⟨b,sz',tot,off,cap,h1,rfl,h2,h3,h4,h5⟩
 ·exact .inl ⟨⟨_,rfl⟩,by simp⟩
 ·rcases hent.2 with⟨g1,rfl⟩|⟨b',tot',us,g1,g2,g3,g4⟩
  ·rw[h1] at g1;cases g1
  ·rw[h1] at g1
   cases g1
   by_cases hz:0<len
   ·have ho:=h5 (.inl hz)
    obtain⟨us',k1,k2⟩:=g4.take' lo len g3
    refine .inr ⟨b,off,cap,us',by rw[hlen],by rw[hlen];exact h2,h3,g2,?_,k2⟩
    have:(xs.take lo).length=lo:=by simp;omega
    rw[this] at k1
    rw[ho]
    simpa using k1
   ·have:len=0:=by omega
    subst this
    exact .inr ⟨b,off,cap,[],by simp,by simp,h3,g2,Mem.nil,by simp [PE]⟩
theorem QhK{I:Nat→Prop}{sz:Nat}:∀{l:List (Option (List D))}{es:List D}{us:List Value},Qat sz l=some es→(∀(i:Nat)(xs:List D),l[i]?=some (some xs)→∃v os,us[i]?=some v∧DR w I (.arr sz xs) v os)→
  (∀(i j:Nat)(xs ys:List D)(c p q r s:Nat),l[i]?=some (some xs)→l[j]?=some (some ys)→us[i]?=some (Value.slice (some ⟨c,0,none⟩) p q)→us[j]?=some (Value.slice (some ⟨c,0,none⟩) r s)→i=j)→
  es.length=l.length∧∃os,DRs w I es (us.take l.length) os∧os.Nodup∧∀c∈os,∃(i:Nat) (xs:List D) (p q:Nat),l[i]?=some (some xs)∧us[i]?=some (Value.slice (some ⟨c,0,none⟩) p q)
 |[],es,us,h,_,_=>by
  simp only[Qat,QU,Qb] at h
  subst h
  exact⟨rfl,[],by simp [DRs],List.nodup_nil,by simp⟩
 |o::l,es,us,h,h1,h2=>by
  simp only[Qat,QU] at h
  split at h
  ·rename_i e es' he hes
   simp only[Qb] at h
   subst h
   cases o with
   |none=>cases he
   |some xs=>
    simp only[Option.map_some,Qb] at he
    subst he
    obtain⟨v,o,r1,r2⟩:=h1 0 xs rfl
    cases us with
    |nil=>simp at r1
    |cons u us=>
     simp only[List.getElem?_cons_zero,Qb] at r1
     subst r1
     obtain⟨g1,os,g2,g3,g4⟩:=QhK (us:=us) (l:=l) hes (fun i ys hi=>h1 (i+1) ys hi) (fun i j xs ys c p q r s a1 a2 a3 a4=>by
      have:=h2 (i+1) (j+1) xs ys c p q r s a1 a2 a3 a4;omega)
     have ho:o=[]∨∃c p q,o=[c]∧u=Value.slice (some ⟨c,0,none⟩) p q:=by
      simp only[DR] at r2
      rcases r2.2 with⟨_,_,rfl⟩|⟨c,cap,_,_,_,rfl,rfl,_⟩
      ·exact .inl rfl
      ·exact .inr ⟨c,_,_,rfl,rfl⟩
     refine⟨by simp [g1],o++os,?_,?_,fun c hc=>?_⟩
     ·rw[List.length_cons,List.take_succ_cons]
      simp only[DRs]
      exact⟨u,_,o,os,rfl,rfl,r2,g2⟩
     ·rcases ho with rfl|⟨c,p,q,rfl,rfl⟩
      ·simpa using g3
      ·rw[List.singleton_append,List.nodup_cons]
       refine⟨fun hc=>?_,g3⟩
       obtain⟨i,ys,p',q',a1,a2⟩:=g4 c hc
       have:=h2 0 (i+1) xs ys c p q p' q' rfl a1 rfl a2
       omega
     ·rcases Qd.1 hc with hc|hc
      ·rcases ho with rfl|⟨c',p,q,rfl,rfl⟩
       ·cases hc
       ·rw[Qm] at hc
        subst hc
        exact⟨0,xs,p,q,rfl,rfl⟩
      ·obtain⟨i,ys,p,q,a1,a2⟩:=g4 c hc
       exact⟨i+1,ys,p,q,a1,a2⟩
  ·cases h
theorem Qbg(h:RH B κ hp0 F w)(hs:Sub hp hp0)(hd:MR w (Im B κ hp0 w) κ d v)(he:XF hp d=some (e,hp')):∃os,DR w (Im B κ hp0 w) e v os∧Gone w κ hp hp' os:=by
 cases d<;>simp only[XF,reduceCtorEq] at he
 case sl id lo len=>
  split at he
  ·rename_i sz xs hl
   split at he
   case isFalse=>cases he
   rename_i hlo
   subst hlo
   have hent:=h.ent id _ (hs _ _ hl)
   simp only[ER] at hent
   have key:∀ys:List D,ys.length=len→(∃zs,xs=ys++zs)→∃os,DR w (Im B κ hp0 w) (.arr sz ys) v os∧Gone w κ hp (rm hp id) os:=by
    rintro ys hys ⟨zs,rfl⟩
    simp only[MR] at hd
    simp only[DR]
    have hmax:=hent.1
    rw[Qj] at hmax
    rcases hent.2 with⟨g1,g2⟩|⟨b,tot,cur,ty,us,g1,g2,g3,g4,g5⟩
    ·have hy:ys=[]:=(List.append_eq_nil_iff.1 g2).1
     subst hy
     simp only[List.length_nil] at hys
     rcases hd with⟨sz',h1,rfl,_,_⟩|⟨b,sz',tot,off,cap,h1,_⟩
     ·exact⟨[],⟨by omega,.inl ⟨rfl,rfl,rfl⟩⟩,Gone.rmNone⟩
     ·rw[h1] at g1;cases g1
    ·rcases hd with⟨sz',h1,_⟩|⟨b',sz',tot',off,cap,h1,rfl,h2,h3,h4,h5⟩
     ·rw[h1] at g1;cases g1
     ·rw[h1] at g1
      cases g1
      have ho:=h5 (.inr trivial)
      simp only[Nat.zero_mul] at ho
      subst ho
      obtain⟨u,z,rfl,k1,k2⟩:=PE.append.1 g5
      exact⟨[b],⟨by omega,.inr ⟨b,cap,cur,ty,u,by rw[hys],rfl,g2,by omega,h3,by omega,(Mem.append.1 g4).1,k1⟩⟩,Gone.rm ⟨_,_,hl,rfl,h1,.inl rfl⟩⟩
   split at he
   ·rename_i hlen
    simp only[Qb,Qc] at he
    obtain⟨rfl,rfl⟩:=he
    exact key xs hlen.symm ⟨[],by simp⟩
   ·split at he
    ·rename_i hle
     simp only[Qb,Qc] at he
     obtain⟨rfl,rfl⟩:=he
     exact key (xs.take len) (by simp;omega) ⟨xs.drop len,by simp⟩
    ·cases he
  ·rename_i sz xs hl
   split at he
   ·rename_i hc
    simp only[Qb,Qc] at he
    obtain⟨rfl,rfl⟩:=he
    obtain⟨rfl,rfl⟩:=hc
    have:=QhJ h (hs _ _ hl) hd (by simp)
    simp only[List.drop_zero,List.take_length] at this
    exact⟨[],this,Gone.none⟩
   ·split at he
    ·rename_i hc
     simp only[Qb,Qc] at he
     obtain⟨rfl,rfl⟩:=he
     exact⟨[],QhJ h (hs _ _ hl) hd hc,Gone.none⟩
    ·cases he
  ·rename_i sz l hl
   split at he
   case isFalse=>cases he
   rename_i hc
   obtain⟨rfl,rfl⟩:=hc
   simp only[Qi,Qc] at he
   obtain⟨es,hes,rfl,rfl⟩:=he
   have hent:=h.ent id _ (hs _ _ hl)
   simp only[ER] at hent
   obtain⟨hmax,_,b,tot,cur,ty,hk,hg,g1,g2,g3,g4⟩:=hent
   simp only[MR,hk,Qb,reduceCtorEq,false_and,exists_false,false_or,KI.arr.injEq] at hd
   obtain⟨b',_,_,off,cap,⟨rfl,rfl,rfl⟩,rfl,q1,q2,q3,q4⟩:=hd
   have hoff:off=0:=by simpa using q4
   subst hoff
   obtain⟨e1,os,e2,e3,e4⟩:=QhK (us:=cur.toList) hes (fun i xs hi=>by
    obtain⟨v,os,r1,r2,_⟩:=g3 i xs hi
    exact⟨v,os,by simpa using r1,r2⟩) (fun i j xs ys c p q r s a1 a2 a3 a4=>g4 i j xs ys c p q r s a1 a2 (by simpa using a3) (by simpa using a4))
   refine⟨b::os,?_,⟨fun i e he=>by rw[Yo] at he;split at he;cases he;exact he,?_,fun c hc=>⟨id,?_,by rw[Yo,if_pos rfl]⟩⟩⟩
   ·simp only[DR]
    exact⟨by omega,b,cap,cur,ty,os,by rw[e1],rfl,hg,by omega,q2,by omega,by rw[e1];exact e2⟩
   ·rw[List.nodup_cons]
    refine⟨fun hb=>?_,e3⟩
    obtain⟨i,xs,p,q,a1,a2⟩:=e4 b hb
    obtain⟨v,o,r1,r2,r3⟩:=g3 i xs a1
    rw[show cur[i]?=some (Value.slice (some ⟨b,0,none⟩) p q) by simpa using a2] at r1
    simp only[Qb] at r1
    subst r1
    have:=QcW r2
    subst this
    exact r3 (by simp)
   ·rcases Qh.1 hc with rfl|hc
    ·exact⟨_,_,hl,rfl,hk,.inl rfl⟩
    ·obtain⟨i,xs,p,q,a1,a2⟩:=e4 c hc
     exact⟨_,_,hl,rfl,hk,.inr ⟨cur,ty,i,xs,p,q,hg,a1,by simpa using a2⟩⟩
  ·cases he
 case mh id=>
  split at he
  ·rename_i m es hl
   simp only[Qb,Qc] at he
   obtain⟨rfl,rfl⟩:=he
   obtain⟨b,arr,h1,_,h2,h3,h4⟩:=h.mapE (hs _ _ hl)
   simp only[MR,h1,Qb,KI.box.injEq] at hd
   obtain⟨b',rfl,rfl⟩:=hd
   exact⟨[_],by simp only[DR];exact⟨_,arr,rfl,rfl,h2,h3,h4⟩,Gone.rm ⟨_,_,hl,rfl,h1,.inl rfl⟩⟩
  ·cases he
 case nl sz=>
  simp only[Qb,Qc] at he
  obtain⟨rfl,rfl⟩:=he
  simp only[MR] at hd
  refine⟨[],?_,Gone.none⟩
  simp only[DR]
  exact⟨by simp,.inl ⟨hd,trivial,trivial⟩⟩
 case int=>
  simp only[Qb,Qc] at he
  obtain⟨rfl,rfl⟩:=he
  exact⟨[],by simpa only[MR,DR,and_true] using hd,Gone.none⟩
 case bool=>
  simp only[Qb,Qc] at he
  obtain⟨rfl,rfl⟩:=he
  exact⟨[],by simpa only[MR,DR,and_true] using hd,Gone.none⟩
 case lst=>
  simp only[Qb,Qc] at he
  obtain⟨rfl,rfl⟩:=he
  exact⟨[],by simpa only[MR] using hd,Gone.none⟩
 case str=>
  simp only[Qb,Qc] at he
  obtain⟨rfl,rfl⟩:=he
  exact⟨[],by simpa only[MR,DR,and_true] using hd,Gone.none⟩
 case nf=>
  simp only[Qb,Qc] at he
  obtain⟨rfl,rfl⟩:=he
  exact⟨[],by simpa only[MR,DR,and_true] using hd,Gone.none⟩
 case clo f cs=>
  split at he
  ·rename_i ho
   simp only[Qb,Qc] at he
   obtain⟨rfl,rfl⟩:=he
   simp only[MR] at hd
   obtain⟨vs,rfl,hm⟩:=hd
   exact⟨[],by simp only[DR];exact⟨vs,rfl,Qes hm ho⟩,Gone.none⟩
  ·cases he
theorem Qbh(h:RH B κ hp0 F w)(f:Hp→D→Option (D×Hp))
  (hf:∀(hp hp':Hp)(d e:D)(v:Value),Sub hp hp0→MR w (Im B κ hp0 w) κ d v→f hp d=some (e,hp')→∃os,DR w (Im B κ hp0 w) e v os∧Gone w κ hp hp' os):
  ∀(ds:List D)(hp hp':Hp)(es:List D)(vs:List Value),Sub hp hp0→MRs w (Im B κ hp0 w) κ ds vs→XO f hp ds=some (es,hp')→∃os,DRs w (Im B κ hp0 w) es vs os∧Gone w κ hp hp' os
 |[],hp,hp',es,vs,hs,hd,he=>by
  simp only[XO,Qb,Qc] at he
  obtain⟨rfl,rfl⟩:=he
  simp only[MRs] at hd
  exact⟨[],by simp [DRs,hd],Gone.none⟩
 |d::ds,hp,hp',es,vs,hs,hd,he=>by
  simp only[XO] at he
  split at he
  case h_2=>cases he
  rename_i e hp1 h1
  split at he
  case h_2=>cases he
  rename_i l hp2 h2
  simp only[Qb,Qc] at he
  obtain⟨rfl,rfl⟩:=he
  simp only[MRs] at hd
  obtain⟨v,vs',rfl,m1,m2⟩:=hd
  obtain⟨o1,a1,g1⟩:=hf hp hp1 d e v hs m1 h1
  obtain⟨o2,a2,g2⟩:=Qbh h f hf ds hp1 hp2 l vs' (g1.sub.trans hs) m2 h2
  exact⟨o1++o2,by simp only[DRs];exact⟨v,vs',o1,o2,rfl,rfl,a1,a2⟩,g1.trans h hs g2⟩
theorem Qn5(h:RH B κ hp0 F w)(hs:Sub hp hp0)(hd:MR w (Im B κ hp0 w) κ d v)(he:JQ hp d=some (e,hp')):∃os,DR w (Im B κ hp0 w) e v os∧Gone w κ hp hp' os:=by
 cases d
 case nl sz=>
  simp only[JQ,Qb,Qc] at he
  obtain⟨rfl,rfl⟩:=he
  simp only[MR] at hd
  exact⟨[],by simp [DR,hd],Gone.none⟩
 all_goals exact Qbg h hs hd he
theorem Qn6(h:RH B κ hp0 F w)(hs:Sub hp hp0)(hd:MR w (Im B κ hp0 w) κ d v)(he:ZV hp d=some (e,hp')):∃os,DR w (Im B κ hp0 w) e v os∧Gone w κ hp hp' os:=by
 cases d
 case pt id off=>
  simp only[ZV] at he
  split at he
  case h_2=>cases he
  rename_i cs hl
  split at he
  case isFalse=>cases he
  rename_i hoff
  subst hoff
  simp only[Qi] at he
  obtain⟨⟨l,hp1⟩,h1,h2⟩:=he
  simp only[Qc] at h2
  obtain⟨rfl,rfl⟩:=h2
  obtain⟨b,cur,ty,k1,k2,k3,k4,k5⟩:=h.box (hs _ _ hl)
  simp only[MR,k1,Qb,KI.box.injEq] at hd
  obtain⟨b',rfl,rfl⟩:=hd
  have g0:Gone w κ hp (rm hp id) [b]:=Gone.rm ⟨_,_,hl,rfl,k1,.inl rfl⟩
  obtain⟨os,a,g⟩:=Qbh h JQ (fun hp hp' d e v hs hd he=>Qn5 h hs hd he) cs (rm hp id) hp1 l _ (g0.sub.trans hs) k5 h1
  exact⟨b::os,by simp only[DR];exact⟨b,cur,ty,os,rfl,rfl,k3,k4,a⟩,g0.trans h hs g⟩
 all_goals exact Qbg h hs hd he
theorem QeL(h:RH B κ hp0 F w)(hs:Sub hp hp0)(hd:MR w (Im B κ hp0 w) κ d v)(he:X2 hp d=some (e,hp')):∃os,DR w (Im B κ hp0 w) e v os∧Gone w κ hp hp' os:=by
 cases d
 case agg cs=>
  simp only[X2,Qi] at he
  obtain⟨⟨l,hp1⟩,h1,h2⟩:=he
  simp only[Qc] at h2
  obtain⟨rfl,rfl⟩:=h2
  simp only[MR] at hd
  obtain⟨vs,rfl,k1,k2⟩:=hd
  obtain⟨os,a,g⟩:=Qbh h XF (fun hp hp' d e v hs hd he=>Qbg h hs hd he) cs hp hp1 l _ hs k2 h1
  exact⟨os,by simp only[DR];exact⟨vs,rfl,k1,a⟩,g⟩
 case clo f cs=>
  simp only[X2,Qi] at he
  obtain⟨⟨l,hp1⟩,h1,h2⟩:=he
  simp only[Qc] at h2
  obtain⟨rfl,rfl⟩:=h2
  simp only[MR] at hd
  obtain⟨vs,rfl,k2⟩:=hd
  obtain⟨os,a,g⟩:=Qbh h ZV (fun hp hp' d e v hs hd he=>Qn6 h hs hd he) cs hp hp1 l _ hs k2 h1
  exact⟨os,by simp only[DR];exact⟨vs,rfl,a⟩,g⟩
 case pt id off=>
  simp only[X2] at he
  split at he
  case h_2=>cases he
  rename_i cs hl
  split at he
  case isFalse=>cases he
  rename_i hoff
  subst hoff
  simp only[Qi] at he
  obtain⟨⟨l,hp1⟩,h1,h2⟩:=he
  simp only[Qc] at h2
  obtain⟨rfl,rfl⟩:=h2
  obtain⟨b,cur,ty,k1,k2,k3,k4,k5⟩:=h.box (hs _ _ hl)
  simp only[MR,k1,Qb,KI.box.injEq] at hd
  obtain⟨b',rfl,rfl⟩:=hd
  have g0:Gone w κ hp (rm hp id) [b]:=Gone.rm ⟨_,_,hl,rfl,k1,.inl rfl⟩
  obtain⟨os,a,g⟩:=Qbh h XF (fun hp hp' d e v hs hd he=>Qbg h hs hd he) cs (rm hp id) hp1 l _ (g0.sub.trans hs) k5 h1
  exact⟨b::os,by simp only[DR];exact⟨b,cur,ty,os,rfl,rfl,k3,k4,a⟩,g0.trans h hs g⟩
 all_goals exact Qbg h hs hd he
theorem Sub.refl:Sub hp hp:=fun _ _ h=>h
structure RI(B:Base)(κ:Nat→Option KI)(hp0 hp:Hp)(w:World)(I:Nat→Prop):Prop where
 sub:Sub hp hp0
 keep:Keep w w (Im B κ hp0 w) I
 own:∀id b,OB κ hp w id b→I b
theorem RI.rd{I:Nat→Prop}(h:RH B κ hp0 F w)(r:RI B κ hp0 hp w I)(id:Nat):Rd w I κ hp id:=by
 intro sz xs hl
 rcases hl with hl|hl|⟨s',l,hl,hes,rfl⟩
 ·have hent:=h.ent id _ (r.sub _ _ hl)
  simp only[ER] at hent
  refine⟨hent.1,hent.2.imp (fun h=>h) ?_⟩
  rintro⟨b,tot,cur,ty,us,k1,k2,k3,k4,k5⟩
  exact⟨b,tot,us,k1,r.own id b ⟨_,_,hl,rfl,k1,.inl rfl⟩,k4,PE.mono r.keep _ _ _ k5⟩
 ·have hent:=h.ent id _ (r.sub _ _ hl)
  simp only[ER] at hent
  refine⟨hent.1,hent.2.imp (fun h=>h) ?_⟩
  rintro⟨b,tot,us,k1,k2,k4,k5⟩
  exact⟨b,tot,us,k1,r.keep.mem b k2,k4,PE.mono r.keep _ _ _ k5⟩
 ·obtain⟨g1,g2⟩:=h.nstRd (r.sub _ _ hl) hes r.keep (fun b ⟨e,k,h1,h2⟩=>r.own id b ⟨e,k,by rw[r.sub _ _ hl] at h1;cases h1;exact hl,h2⟩)
  exact⟨g1,.inr g2⟩
theorem QhL{I:Nat→Prop}(h:RH B κ hp0 F w)(r:RI B κ hp0 hp w I)(hv:MR w (Im B κ hp0 w) κ d v)(hl:XE hp d=some e):DR w I e v []:=by
 have l0:Xl hp d=some e→DR w I e v []:=fun hl=>Z0 r.keep (fun id _=>r.rd h id) hv hl
 cases d<;>simp only[XE] at hl
 case agg cs=>
  cases hc:QU (Xl hp) cs with
  |none=>simp [hc] at hl
  |some l=>
   simp only[hc,Option.map_some,Qb] at hl
   subst hl
   simp only[MR] at hv
   obtain⟨vs,rfl,h1,h2⟩:=hv
   have:=Qbc r.keep (fun c _ id _=>r.rd h id) h2 h1 hc
   simp only[DR]
   exact⟨vs,rfl,h1,this.to_DRs⟩
 case ref cs=>
  simp only[Qb] at hl
  subst hl
  simp only[MR] at hv
  exact hv.mono r.keep _ _ _ (by simp)
 case pt id off=>
  split at hl
  ·rename_i cs hb
   cases hc:QU (Xl hp) cs with
   |none=>simp [hc] at hl
   |some l=>
    simp only[hc,Option.map_some,Qb] at hl
    subst hl
    have hb0:=r.sub _ _ hb
    obtain⟨b,cur,ty,hk,hob,hg,h1,hms⟩:=h.box hb0
    simp only[MR,hk,Qb,KI.box.injEq] at hv
    obtain⟨b',rfl,rfl⟩:=hv
    have hpc:=Qbc r.keep (fun c _ id _=>r.rd h id) hms h1 hc
    simp only[DR]
    refine⟨trivial,b,off,cur.toList.drop off,rfl,r.own id b ⟨_,_,hb,rfl,hk,.inl rfl⟩,Mem.of_cells hg (fun j u hj=>?_),hpc.drop off⟩
    rw[List.getElem?_drop] at hj
    simpa using hj
  ·cases hl
 all_goals exact l0 hl
theorem QhM{I:Nat→Prop}(h:RH B κ hp0 F w)(r:RI B κ hp0 hp w I):∀{cs es:List D}{vs:List Value},MRs w (Im B κ hp0 w) κ cs vs→QU (XE hp) cs=some es→DRs w I es vs []
 |[],es,vs,hm,hl=>by
  simp only[QU,Qb] at hl
  subst hl
  simp only[MRs] at hm
  simp [DRs,hm]
 |c::cs,es,vs,hm,hl=>by
  simp only[QU] at hl
  split at hl
  ·rename_i e es' he hes
   simp only[Qb] at hl
   subst hl
   simp only[MRs] at hm
   obtain⟨v,vs',rfl,hv,hm⟩:=hm
   simp only[DRs]
   exact⟨v,vs',[],[],rfl,rfl,QhL h r hv he,QhM h r hm hes⟩
  ·cases hl
theorem Qn7{I:Nat→Prop}(h:RH B κ hp0 F w)(r:RI B κ hp0 hp w I)(hv:MR w (Im B κ hp0 w) κ d v)(hl:Xz hp d=some e):DR w I e v []:=by
 have l1:XE hp d=some e→DR w I e v []:=fun hl=>QhL h r hv hl
 cases d<;>simp only[Xz] at hl
 case clo f cs=>
  cases hc:QU (XE hp) cs with
  |none=>simp [hc] at hl
  |some l=>
   simp only[hc,Option.map_some,Qb] at hl
   subst hl
   simp only[MR] at hv
   obtain⟨vs,rfl,h2⟩:=hv
   simp only[DR]
   exact⟨vs,rfl,QhM h r h2 hc⟩
 all_goals exact l1 hl
theorem QeM{I:Nat→Prop}{I0:Nat→Prop}:∀{ds es:List D}{vs:List Value},(∀d v e,d∈ds→MR w I0 κ d v→Xz hp d=some e→DR w I e v [])→MRs w I0 κ ds vs→QU (Xz hp) ds=some es→DRs w I es vs []
 |[],es,vs,_,hm,hl=>by
  simp only[QU,Qb] at hl
  subst hl
  simp only[MRs] at hm
  simp [DRs,hm]
 |d::ds,es,vs,hr,hm,hl=>by
  simp only[QU] at hl
  split at hl
  ·rename_i e es' he hes
   simp only[Qb] at hl
   subst hl
   simp only[MRs] at hm
   obtain⟨v,vs',rfl,hv,hm⟩:=hm
   simp only[DRs]
   exact⟨v,vs',[],[],rfl,rfl,hr d v e (by simp) hv he,QeM (fun d v e hd=>hr d v e (Qu _ hd)) hm hes⟩
  ·cases hl
theorem Qn8{m:Md}(hm:m≠.rd)(h:RH B κ hp0 F w)(hs:Sub hp hp0)(hd:MR w (Im B κ hp0 w) κ d v)(he:Zr hp m d=some (e,hp')):∃os,DR w (Im B κ hp0 w) e v os∧Gone w κ hp hp' os:=by
 cases m
 case rd=>exact absurd rfl hm
 case mp=>exact QeL h hs hd he
 all_goals
  simp only[Zr] at he
  cases d<;>simp only[ZJ] at he
  case nl s=>
   simp only[Qb,Qc] at he
   obtain⟨rfl,rfl⟩:=he
   simp only[MR] at hd
   exact⟨[],by simp only[DR];exact⟨hd,trivial⟩,Gone.none⟩
  case clo=>cases he
  case agg=>exact QeL h hs hd he
  all_goals exact Qbg h hs hd he
theorem Qc2{m:Md}(hm:m≠.rd){md:List Md}{es:List D}:XL hp (m::md) (e::es)=(XL hp md es).map (e::·):=by
 cases m
 case rd=>exact absurd rfl hm
 all_goals simp only[XL];cases XL hp md es<;>rfl
theorem QbT{m:Md}(hm:m≠.rd){md:List Md}{es:List D}:Xv (m::md) (e::es)=Xv md es:=by
 cases m
 case rd=>exact absurd rfl hm
 all_goals rfl
theorem QeN(h:RH B κ hp0 F w):∀(md:List Md)(ds:List D)(hp hp1:Hp)(es:List D)(vs:List Value),Sub hp hp0→MRs w (Im B κ hp0 w) κ ds vs→Yr hp md ds=some (es,hp1)→
  ∃os,Gone w κ hp hp1 os∧∀(hp2:Hp)(I:Nat→Prop)(args:List D),Keep w w (Im B κ hp0 w) I→(∀d v e,d∈Xv md ds→MR w (Im B κ hp0 w) κ d v→Xz hp2 d=some e→DR w I e v [])→XL hp2 md es=some args→DRs w I args vs os
 |[],ds,hp,hp1,es,vs,hs,hd,he=>by
  have:es=ds∧hp1=hp:=by cases ds<;>simp only[Yr,Qb,Qc] at he<;>exact⟨he.1.symm,he.2.symm⟩
  obtain⟨rfl,rfl⟩:=this
  refine⟨[],Gone.none,fun hp2 I args hk hl hr=>?_⟩
  have e1:XL hp2 [] es=QU (Xz hp2) es:=by cases es<;>rfl
  have e2:Xv [] es=es:=by cases es<;>rfl
  rw[e1] at hr
  rw[e2] at hl
  exact QeM hl hd hr
 |m::md,[],hp,hp1,es,vs,hs,hd,he=>by
  simp only[Yr,Qb,Qc] at he
  obtain⟨rfl,rfl⟩:=he
  refine⟨[],Gone.none,fun hp2 I args hk hl hr=>?_⟩
  have e1:XL hp2 (m::md) []=some []:=by cases m<;>rfl
  rw[e1] at hr
  simp only[Qb] at hr
  subst hr
  simp only[MRs] at hd
  simp [DRs,hd]
 |m::md,d::ds,hp,hp1,es,vs,hs,hd,he=>by
  simp only[Yr] at he
  split at he
  case h_2=>cases he
  rename_i e hp2 h1
  split at he
  case h_2=>cases he
  rename_i l hp3 h2
  simp only[Qb,Qc] at he
  obtain⟨rfl,rfl⟩:=he
  simp only[MRs] at hd
  obtain⟨v,vs',rfl,m1,m2⟩:=hd
  by_cases hm:m=.rd
  ·subst hm
   simp only[Zr,Qb,Qc] at h1
   obtain⟨rfl,rfl⟩:=h1
   obtain⟨os,g,k⟩:=QeN h md ds hp hp3 l vs' hs m2 h2
   refine⟨os,g,fun hp4 I args hk hl hr=>?_⟩
   simp only[XL] at hr
   split at hr
   case h_2=>cases hr
   rename_i e' es' he' hes'
   simp only[Qb] at hr
   subst hr
   simp only[DRs]
   exact⟨v,vs',[],os,rfl,rfl,hl d v e' (by simp [Xv]) m1 he',k hp4 I es' hk (fun d v e hd=>hl d v e (by simp only[Xv];exact Qu _ hd)) hes'⟩
  ·obtain⟨o1,a1,g1⟩:=Qn8 hm h hs m1 h1
   obtain⟨o2,g2,k⟩:=QeN h md ds hp2 hp3 l vs' (g1.sub.trans hs) m2 h2
   refine⟨o1++o2,g1.trans h hs g2,fun hp4 I args hk hl hr=>?_⟩
   rw[Qc2 hm] at hr
   simp only[Qi] at hr
   obtain⟨es',hes',rfl⟩:=hr
   rw[QbT hm] at hl
   simp only[DRs]
   have hI:∀b∈o1,w.heap[b]?=w.heap[b]?:=fun _ _=>rfl
   exact⟨v,vs',o1,o2,rfl,rfl,DR.mono hk _ _ _ hI a1,k hp4 I es' hk hl hes'⟩
theorem Qn9(h:RH B κ hp F w){md:List Md}{ds args:List D}{vs:List Value}{hp1:Hp}(hd:MRs w (Im B κ hp w) κ ds vs)(hg:Zo hp md ds=some (args,hp1)):
  ∃os,Gone w κ hp hp1 os∧∀(I:Nat→Prop),Keep w w (Im B κ hp w) I→(∀d v e,d∈Xv md ds→MR w (Im B κ hp w) κ d v→Xz hp1 d=some e→DR w I e v [])→DRs w I args vs os:=by
 unfold Zo at hg
 split at hg
 ·simp only[Qi,Qc] at hg
  obtain⟨l,hl,rfl,rfl⟩:=hg
  refine⟨[],Gone.none,fun I hk hr=>?_⟩
  have e2:Xv [] ds=ds:=by cases ds<;>rfl
  rw[e2] at hr
  exact QeM hr hd hl
 ·split at hg
  case h_2=>cases hg
  rename_i es hp2 h1
  simp only[Qi,Qc] at hg
  obtain⟨l,hl,rfl,rfl⟩:=hg
  obtain⟨os,g,k⟩:=QeN h md ds hp hp2 es vs Sub.refl hd h1
  exact⟨os,g,fun I hk hr=>k hp2 I l hk hr hl⟩
theorem QhN{md:List Md}{ds args:List D}{hp1:Hp}(hg:Zo hp md ds=some (args,hp1)):∀d∈Xv md ds,∃e,Xz hp1 d=some e:=by
 have key:∀(md:List Md)(ds es:List D)(hp hp1 hp2:Hp)(args:List D),Yr hp md ds=some (es,hp1)→XL hp2 md es=some args→∀d∈Xv md ds,∃e,Xz hp2 d=some e:=by
  intro md
  induction md with
  |nil=>
   intro ds es hp hp1 hp2 args he hr d hd
   have:es=ds:=by cases ds<;>simp only[Yr,Qb,Qc] at he<;>exact he.1.symm
   subst this
   have e1:XL hp2 [] es=QU (Xz hp2) es:=by cases es<;>rfl
   have e2:Xv [] es=es:=by cases es<;>rfl
   rw[e1] at hr
   rw[e2] at hd
   clear he e1 e2
   induction es generalizing args with
   |nil=>simp at hd
   |cons c cs ih=>
    simp only[QU] at hr
    split at hr
    ·rename_i e es' he hes
     rcases Qh.1 hd with rfl|hd
     ·exact⟨e,he⟩
     ·exact ih es' hes hd
    ·cases hr
  |cons m md ih=>
   intro ds es hp hp1 hp2 args he hr d hd
   cases ds with
   |nil=>cases m<;>simp [Xv] at hd
   |cons c ds=>
    simp only[Yr] at he
    split at he
    case h_2=>cases he
    rename_i e hp3 h1
    split at he
    case h_2=>cases he
    rename_i l hp4 h2
    simp only[Qb,Qc] at he
    obtain⟨rfl,rfl⟩:=he
    by_cases hm:m=.rd
    ·subst hm
     simp only[Zr,Qb,Qc] at h1
     obtain⟨rfl,rfl⟩:=h1
     simp only[XL] at hr
     split at hr
     case h_2=>cases hr
     rename_i e' es' he' hes'
     simp only[Xv,Qh] at hd
     rcases hd with rfl|hd
     ·exact⟨e',he'⟩
     ·exact ih ds l _ _ hp2 es' h2 hes' d hd
    ·rw[Qc2 hm] at hr
     simp only[Qi] at hr
     obtain⟨es',hes',_⟩:=hr
     rw[QbT hm] at hd
     exact ih ds l _ _ hp2 es' h2 hes' d hd
 unfold Zo at hg
 split at hg
 ·simp only[Qi,Qc] at hg
  obtain⟨l,hl,rfl,rfl⟩:=hg
  have e1:XL hp [] ds=QU (Xz hp) ds:=by cases ds<;>rfl
  exact key [] ds ds hp hp hp l (by cases ds<;>rfl) (by rw[e1];exact hl)
 ·split at hg
  case h_2=>cases hg
  rename_i es hp2 h1
  simp only[Qi,Qc] at hg
  obtain⟨l,hl,rfl,rfl⟩:=hg
  exact key md ds es hp _ hp2 l h1 hl
end
end Go.Am
namespace Go.Am
open Go
section
variable {P:Program} {B:Base} {κ κ':Nat→Option KI} {hp hp':qHp} {F:Nat→Prop} {w w':World} {n n':Nat} {d:D}
theorem J3{α:Type}:∀{l:List (Nat×α)}{id:Nat}{a:α},lk l id=some a→(id,a)∈l
 |[],_,_,h=>by simp [lk] at h
 |(k,b)::l,id,a,h=>by
  simp only[lk] at h
  split at h
  ·rename_i e;subst e;simp only[Qb] at h;subst h;simp
  ·exact Qu _ (J3 h)
theorem QhO(l:List Nat):∀(hp:qHp)(id:Nat),lk hp id=none→lk (Q9 l hp) id=none:=by
 induction l with
 |nil=>intro hp id h;simpa [Q9] using h
 |cons i l ih=>
  intro hp id h
  simp only[Q9]
  cases hi:lk hp i with
  |none=>exact ih hp id h
  |some e=>
   refine ih _ id ?_
   rw[Xw]
   have:id≠i:=fun e=>by rw[e,hi] at h;cases h
   rw[if_neg this];exact h
theorem QeO{l:List Nat}{id:Nat}{e:Ent}(h:lk (Q9 l hp) id=some e):∃e0,lk hp id=some e0∧e=if id∈l then e0.frozen else e0:=by
 cases h0:lk hp id with
 |none=>rw[QhO l hp id h0] at h;cases h
 |some e0=>rw[Qbd l hp id e0 h0] at h;simp only[Qb] at h;exact⟨e0,rfl,h.symm⟩
theorem QeP{α β:Type}{g:α→List β}:∀{l:List α},(l.flatMap g).Nodup→∀{a a':α}{b:β},a∈l→a'∈l→b∈g a→b∈g a'→a=a'
 |[],_,_,_,_,h,_,_,_=>by simp at h
 |x::l,hn,a,a',b,h,h',g1,g2=>by
  simp only[List.flatMap_cons,Qy] at hn
  obtain⟨_,h2,h3⟩:=hn
  rcases Qh.1 h with e|m<;>rcases Qh.1 h' with e'|m'
  ·rw[e,e']
  ·exact absurd rfl (h3 b (e▸g1) b (Qr.2 ⟨a',m',g2⟩))
  ·exact absurd rfl (h3 b (e'▸g2) b (Qr.2 ⟨a,m,g1⟩))
  ·exact QeP h2 m m' g1 g2
theorem QeQ(l:List Nat)(hp:qHp)(id:Nat):lk (Q9 l hp) id=(lk hp id).map fun e=>if id∈l then e.frozen else e:=by
 cases h:lk hp id with
 |none=>exact QhO l hp id h
 |some e=>exact Qbd l hp id e h
theorem Ow.thaw{e:Ent}{k:KI}{b:Nat}(h:Ow w e.frozen k b):Ow w e k b:=by
 cases e
 case arr sz xs=>
  rcases h with h|h
  ·exact .inl h
  ·exact (h:False).elim
 case nst sz l o=>
  rcases h with h|h
  ·exact .inl h
  ·refine .inr ?_
   unfold Ent.frozen at h
   split at h
   ·rename_i e;cases e
   ·rename_i e
    split at h
    ·exact (h:False).elim
    ·cases e;exact h
   ·exact h
 all_goals exact h
theorem Ow.thaw_if{c:Prop}[Decidable c]{e:Ent}{k:KI}{b:Nat}(h:Ow w (if c then e.frozen else e) k b):Ow w e k b:=by
 split at h
 ·exact h.thaw
 ·exact h
structure Back(w:World)(I:Nat→Prop)(κ κ':Nat→Option KI)(n n':Nat)(E:Hp)(os:List Nat):Prop where
 le:n≤n'
 out:∀id,(id<n∨n'≤id)→κ' id=κ id
 owned:∀p∈E,p.2.owned=true
 blks:(blks w κ' E).Perm os
 ent:∀p∈E,ER w I κ' p.1 p.2
theorem Took.back{I:Nat→Prop}{E:Hp}{os:List Nat}(h:Took w I κ κ' n n' E os):Back w I κ κ' n n' E os:=
 ⟨h.le,h.out,h.owned,by rw[h.blks],h.ent⟩
theorem Back.kle{I:Nat→Prop}{E:Hp}{os:List Nat}(h:Back w I κ κ' n n' E os)(hf:∀id,n≤id→id<n'→κ id=none):Kle κ κ':=fun id k hk=>by
 by_cases h1:id<n∨n'≤id
 ·rw[h.out id h1];exact hk
 ·rw[hf id (by omega) (by omega)] at hk;cases hk
theorem Qoa(h:RH B κ hp F w)(hF:∀k,k<64→F (n+k)){hp1:Hp}{os0:List Nat}(g:Gone w κ hp hp1 os0)(hs:Stp (·∈os0) w w'){I0:Nat→Prop}{E:Hp}{os:List Nat}(ht:Back w' I0 κ κ' n n' E os)(hn:n'≤n+64)(hnd:os.Nodup)
  (hos:∀b∈os,(b∈os0∨w.heap.size≤b)∧b<w'.heap.size) {L:List Nat} (hL:∀id∈L,lk hp1 id≠none) (hI:∀b,I0 b→Im B κ' (E++Q9 L hp1) w' b):
  RH B κ' (E++Q9 L hp1) (Fr F n) w'∧Nxt B κ κ' hp (E++Q9 L hp1) w w':=by
 obtain⟨k1,k2⟩:=h.freezes L
 have hfree:∀id,n≤id→id<n'→κ id=none:=fun id h1 h2=>by
  have:=hF (id-n) (by omega)
  rw[show n+(id-n)=id from by omega] at this
  exact h.fr id this
 have kle:=ht.kle hfree
 have sub:∀id e,lk (Q9 L hp1) id=some e→lk (Q9 L hp) id=some e∧lk hp1 id≠none:=fun id e he=>by
  obtain⟨e0,h0,h1⟩:=QeO he
  refine⟨?_,by rw[h0];simp⟩
  rw[Qbd L hp id e0 (g.sub _ _ h0),h1]
 have ob0:∀id b,OB κ (Q9 L hp) w id b→OB κ hp w id b:=by
  rintro id b ⟨e,k,h1,h2,h3,h4⟩
  obtain⟨e0,h0,he⟩:=QeO h1
  refine⟨e0,k,h0,?_,h3,(he▸h4).thaw_if⟩
  rw[he] at h2
  split at h2
  ·cases e0<;>simp [Ent.frozen,Ent.owned] at h2 ⊢
  ·exact h2
 have obs:∀id b,OB κ (Q9 L hp1) w id b→OB κ (Q9 L hp) w id b∧lk hp1 id≠none:=by
  rintro id b ⟨e,k,h1,h2⟩
  exact⟨⟨e,k,(sub _ _ h1).1,h2⟩,(sub _ _ h1).2⟩
 have own0:∀b∈os0,∃id,OB κ (Q9 L hp) w id b∧lk hp1 id=none:=by
  intro b hb
  obtain⟨id,⟨e,k,h1,h2,h3,h4⟩,hn⟩:=g.own b hb
  refine⟨id,⟨e,k,?_,h2,h3,h4⟩,hn⟩
  rw[Qbd L hp id e h1,if_neg (fun hm=>hL id hm hn)]
 have look:∀id e,lk (E++Q9 L hp1) id=some e→(id,e)∈E∨lk (Q9 L hp1) id=some e:=fun id e he=>by
  rw[Jy] at he
  cases hE:lk E id with
  |none=>rw[hE] at he;exact .inr (by simpa using he)
  |some e'=>rw[hE] at he;simp at he;subst he;exact .inl (J3 hE)
 have apart:∀id b,OB κ (Q9 L hp1) w id b→b∉os0:=fun id b ho hb=>by
  obtain⟨i,hi,hn⟩:=own0 b hb
  obtain⟨ho,hne⟩:=obs id b ho
  have:=k1.inj _ _ _ ho hi
  subst this
  exact hne hn
 have hob:∀id b,OB κ' (E++Q9 L hp1) w' id b→(∃e,(id,e)∈E∧b∈ebk w' κ' (id,e)∧b∈os)∨OB κ (Q9 L hp1) w id b:=by
  rintro id b ⟨e,k,h1,h2,h3,h4⟩
  rcases look id e h1 with h1|h1
  ·have hb:b∈ebk w' κ' (id,e):=QeJ h3 h4
   exact .inl ⟨e,h1,hb,ht.blks.mem_iff.1 (Qr.2 ⟨(id,e),h1,hb⟩)⟩
  ·obtain⟨k',hk'⟩:=k1.place (sub _ _ h1).1
   have:=kle _ _ hk'
   rw[h3] at this
   cases this
   refine .inr ⟨e,k,h1,h2,hk',h4.congr fun b0 hb0=>?_⟩
   have hoo:OB κ (Q9 L hp1) w id b0:=⟨e,k,h1,h2,hk',.inl hb0⟩
   exact hs.block b0 (k1.own b0 ⟨id,(obs _ _ hoo).1⟩).2 (apart _ _ hoo)
 have hnd':(blks w' κ' E).Nodup:=ht.blks.nodup_iff.2 hnd
 have res:=k1.next (κ':=κ') (hp':=E++Q9 L hp1) (F':=Fr F n) (w':=w') kle (hs.mono fun b _ hb=>(own0 b hb).imp fun _ h=>h.1) (fun b ⟨id,ho⟩=>by
   rcases hob id b ho with⟨_,_,_,hb⟩|ho
   ·exact (hos b hb).1.imp (fun hb=>(own0 b hb).imp fun _ h=>h.1) (fun h=>h)
   ·exact .inl ⟨id,(obs _ _ ho).1⟩) (fun id hi=>by
   rw[ht.out id (by have:=hi.2;omega)];exact h.fr id hi.1) (fun b ⟨id,ho⟩=>by
   rcases hob id b ho with⟨_,_,_,hb⟩|ho
   ·exact (hos b hb).2
   ·exact QI (k1.own b ⟨id,(obs _ _ ho).1⟩).2 hs.size) (fun keep id e he=>by
   rcases look id e he with h1|h1
   ·exact .inr ((ht.ent _ h1).mono ⟨hI,fun _ _=>rfl⟩ (fun _ _ h=>h) (fun _ _ _ _ _=>rfl))
   ·refine .inl ⟨(sub _ _ h1).1,fun ho q b hq hb=>?_⟩
    have hoo:OB κ (Q9 L hp1) w id b:=⟨_,_,h1,ho,hq,hb⟩
    exact hs.block b (k1.own b ⟨id,(obs _ _ hoo).1⟩).2 (apart _ _ hoo)) (fun id id' b h1 h2=>by
   have cross:∀i j e,(i,e)∈E→b∈os→OB κ (Q9 L hp1) w j b→i=j:=fun i j e _ hb ho=>by
    rcases (hos b hb).1 with hb|hb
    ·exact absurd hb (apart _ _ ho)
    ·have:=(k1.own b ⟨j,(obs _ _ ho).1⟩).2;omega
   rcases hob id b h1 with⟨e1,m1,b1,o1⟩|g1<;>rcases hob id' b h2 with⟨e2,m2,b2,o2⟩|g2
   ·have:=QeP (g:=ebk w' κ') (l:=E) hnd' m1 m2 b1 b2
    exact congrArg Prod.fst this
   ·exact cross _ _ _ m1 o1 g2
   ·exact (cross _ _ _ m2 o2 g1).symm
   ·exact k1.inj _ _ _ (obs _ _ g1).1 (obs _ _ g2).1)
 exact⟨res.1,k2.trans res.2⟩
theorem QhP{I J:Nat→Prop}{v:Value}{os:List Nat}(hf:d.flat0=true)(h:DR w I d v os):DR w J d v os:=by
 cases d<;>simp only[D.flat0,Bool.false_eq_true] at hf<;>simpa [DR] using h
theorem QhQ{I J:Nat→Prop}:∀{cs:List D}{us:List Value},cs.all D.flat0=true→PC w I cs us→PC w J cs us
 |[],us,_,h=>by simpa [PC] using h
 |c::cs,us,hf,h=>by
  simp only[List.all_cons,Qk] at hf
  simp only[PC] at h ⊢
  obtain⟨u,us',rfl,h1,h2,h3⟩:=h
  exact⟨u,us',rfl,h1,QhP hf.1 h2,QhQ hf.2 h3⟩
theorem Qob{I J:Nat→Prop}{us:List Value}(hf:d.flatE=true)(h:P1 w I d us):P1 w J d us:=by
 cases d<;>simp only[D.flatE,D.flat0,Bool.false_eq_true] at hf<;>simp only[P1] at h ⊢
 ·exact h
 ·exact h
 ·exact h
 ·exact QhQ hf h
theorem QeR{I J:Nat→Prop}{sz:Nat}:∀{xs:List D}{us:List Value},xs.all D.flatE=true→PE w I sz xs us→PE w J sz xs us
 |[],us,_,h=>by simpa [PE] using h
 |x::xs,us,hf,h=>by
  simp only[List.all_cons,Qk] at hf
  simp only[PE] at h ⊢
  obtain⟨u,us',rfl,h1,h2,h3⟩:=h
  exact⟨u,us',rfl,h1,Qob hf.1 h2,QeR hf.2 h3⟩
theorem Qoc{I J:Nat→Prop}{v:Value}{os:List Nat}(hf:d.flatA=true)(h:DR w I d v os):DR w J d v os:=by
 cases d<;>simp only[D.flatA,Bool.false_eq_true] at hf
 simp only[DR] at h ⊢
 refine⟨h.1,h.2.imp (fun h=>h) ?_⟩
 rintro⟨b,cap,cur,e,us,h1,h2,h3,h4,h5,h6,h7,h8⟩
 exact⟨b,cap,cur,e,us,h1,h2,h3,h4,h5,h6,h7,QeR hf h8⟩
theorem QbU{I J:Nat→Prop}{f:D→Bool}(hone:∀(d:D)(v:Value)(os:List Nat),f d=true→DR w I d v os→DR w J d v os):∀{ds:List D}{vs:List Value}{os:List Nat},ds.all f=true→DRs w I ds vs os→DRs w J ds vs os
 |[],_,_,_,h=>by simpa [DRs] using h
 |d::ds,vs,os,hf,h=>by
  simp only[List.all_cons,Qk] at hf
  simp only[DRs] at h ⊢
  obtain⟨v,vs',o,o',rfl,rfl,h1,h2⟩:=h
  exact⟨v,vs',o,o',rfl,rfl,hone d v o hf.1 h1,QbU hone hf.2 h2⟩
theorem QeS{I J:Nat→Prop}{v:Value}{os:List Nat}(hf:d.flat1=true)(h:DR w I d v os):DR w J d v os:=by
 cases d<;>simp only[D.flat1] at hf
 case arr sz xs=>
  simp only[DR] at h ⊢
  refine⟨h.1,h.2.imp (fun h=>h) ?_⟩
  rintro⟨b,cap,cur,e,us,h1,h2,h3,h4,h5,h6,h7,h8⟩
  exact⟨b,cap,cur,e,us,h1,h2,h3,h4,h5,h6,h7,QeR hf h8⟩
 case nst sz ds=>
  simp only[DR] at h ⊢
  obtain⟨hm,b,cap,cur,e,os',h1,h2,h3,h4,h5,h6,h7⟩:=h
  exact⟨hm,b,cap,cur,e,os',h1,h2,h3,h4,h5,h6,QbU (fun d v os hf h=>Qoc hf h) hf h7⟩
 all_goals exact QhP hf h
theorem QhR{I J:Nat→Prop}{v:Value}{os:List Nat}(hf:d.flat2=true)(h:DR w I d v os):DR w J d v os:=by
 cases d<;>simp only[D.flat2] at hf
 case agg cs=>
  simp only[DR] at h ⊢
  obtain⟨vs,h1,h2,h3⟩:=h
  exact⟨vs,h1,h2,QbU (fun d v os hf h=>QeS hf h) hf h3⟩
 case box cs=>
  simp only[DR] at h ⊢
  obtain⟨b,cur,e,os',h1,h2,h3,h4,h5⟩:=h
  exact⟨b,cur,e,os',h1,h2,h3,h4,QbU (fun d v os hf h=>QeS hf h) hf h5⟩
 all_goals exact QeS (by simpa only[D.flat1] using hf) h
theorem Qod{I J:Nat→Prop}{v:Value}{os:List Nat}(hf:d.flat=true)(h:DR w I d v os):DR w J d v os:=by
 cases d<;>simp only[D.flat] at hf
 case tup cs=>
  simp only[DR] at h ⊢
  obtain⟨vs,h1,h3⟩:=h
  exact⟨vs,h1,QbU (fun d v os hf h=>QhR hf h) hf h3⟩
 all_goals exact QhR (by simpa only[D.flat2] using hf) h
theorem Qoe{I:Nat→Prop}{v:Value}{os:List Nat}(ho:okA d=true)(h:DR w I d v os)(hnd:os.Nodup):
  ∃κ',Took w I κ κ' n (XP n d).2.2 (XP n d).2.1 os∧MR w I κ' (XP n d).1 v:=by
 let κ0:Nat→Option KI:=fun id=>if id<n then κ id else none
 obtain⟨κ1,t1,m1,f1⟩:=Qn4 (κ:=κ0) (n:=n) ho h hnd (fun id hi=>by simp only[κ0];rw[if_neg (by omega)])
 let κ2:Nat→Option KI:=fun id=>if n≤id∧id<(XP n d).2.2 then κ1 id else κ id
 have kle:Kle κ1 κ2:=fun id k hk=>by
  simp only[κ2]
  by_cases hid:n≤id∧id<(XP n d).2.2
  ·rw[if_pos hid];exact hk
  ·rw[if_neg hid]
   rw[t1.out id (by omega)] at hk
   simp only[κ0] at hk
   split at hk
   ·exact hk
   ·cases hk
 refine⟨κ2,⟨t1.le,fun id hid=>?_,t1.ids,t1.nodup,t1.owned,?_,fun p hp=>?_⟩,m1.mono ⟨fun _ h=>h,fun _ _=>rfl⟩ kle _ _⟩
 ·simp only[κ2];rw[if_neg (by omega)]
 ·have:=t1.blks
  unfold blks at*
  rw[←this]
  exact Qbe fun p hp=>QbS (by simp only[κ2];rw[if_pos (t1.ids p hp)])
 ·exact (t1.ent p hp).mono ⟨fun _ h=>h,fun _ _=>rfl⟩ kle (fun _ _ _ _ _=>rfl)
theorem QhS{I:Nat→Prop}{cs:List D}{vs:List Value}{os:List Nat}(ho:cs.all XU=true)(h:DRs w I cs vs os)(hnd:os.Nodup):
  ∃κ',Took w I κ κ' n (Xa QW n cs).2.2 (Xa QW n cs).2.1 os∧MRs w I κ' (Xa QW n cs).1 vs:=by
 let κ0:Nat→Option KI:=fun id=>if id<n then κ id else none
 obtain⟨κ1,t1,m1,f1⟩:=J2 QW XU (fun n κ d v os ho h hd hf=>Qbf ho h hd hf) cs n κ0 vs os ho h hnd (fun id hi=>by simp only[κ0];rw[if_neg (by omega)])
 let κ2:Nat→Option KI:=fun id=>if n≤id∧id<(Xa QW n cs).2.2 then κ1 id else κ id
 have kle:Kle κ1 κ2:=fun id k hk=>by
  simp only[κ2]
  by_cases hid:n≤id∧id<(Xa QW n cs).2.2
  ·rw[if_pos hid];exact hk
  ·rw[if_neg hid]
   rw[t1.out id (by omega)] at hk
   simp only[κ0] at hk
   split at hk
   ·exact hk
   ·cases hk
 refine⟨κ2,⟨t1.le,fun id hid=>?_,t1.ids,t1.nodup,t1.owned,?_,fun p hp=>?_⟩,m1.mono ⟨fun _ h=>h,fun _ _=>rfl⟩ kle _ _⟩
 ·simp only[κ2];rw[if_neg (by omega)]
 ·have:=t1.blks
  unfold blks at*
  rw[←this]
  exact Qbe fun p hp=>QbS (by simp only[κ2];rw[if_pos (t1.ids p hp)])
 ·exact (t1.ent p hp).mono ⟨fun _ h=>h,fun _ _=>rfl⟩ kle (fun _ _ _ _ _=>rfl)
theorem ER.known{I:Nat→Prop}{id:Nat}{e:Ent}(h:ER w I κ id e):∃k,κ id=some k:=by
 cases e<;>simp only[ER] at h
 ·rcases h.2 with⟨h,_⟩|⟨b,tot,_,_,_,h,_⟩<;>exact⟨_,h⟩
 ·rcases h.2 with⟨h,_⟩|⟨b,tot,_,h,_⟩<;>exact⟨_,h⟩
 ·obtain⟨b,_,_,h,_⟩:=h;exact⟨_,h⟩
 ·obtain⟨_,_,b,_,_,_,h,_⟩:=h;exact⟨_,h⟩
 ·exact⟨_,h⟩
 ·obtain⟨b,_,h,_⟩:=h;exact⟨_,h⟩
 ·obtain⟨b,_,_,h,_⟩:=h;exact⟨_,h⟩
theorem QhT{n:Nat}{d:D}:n≤(QW n d).2.2:=by cases d<;>simp [QW]
theorem QeT{f:Nat→D→D×qHp×Nat}(hf:∀n d,n≤(f n d).2.2):∀{ds:List D}{n:Nat},n≤(Xa f n ds).2.2
 |[],n=>by simp [Xa]
 |d::ds,n=>Qt (hf n d) (QeT hf (ds:=ds))
theorem Qc3:∀{cs bs:List D}{n n':Nat}{hp hp':Hp},YJ n cs bs hp=some (n',hp')→n≤n'
 |[],[],n,n',hp,hp',h=>by simp only[YJ,Qb,Qc] at h;omega
 |[],_::_,_,_,_,_,h=>by simp [YJ] at h
 |_::_,[],_,_,_,_,h=>by simp [YJ] at h
 |c::cs,b::bs,n,n',hp,hp',h=>by
  simp only[YJ] at h
  split at h
  ·split at h
   ·have h1:=(QeT (f:=QW) (fun n d=>QhT (n:=n) (d:=d)) (ds:=‹List D›) (n:=n))
    exact Qt h1 (Qc3 h)
   ·cases h
  ·cases h
theorem Qbi{hp0:Hp}{ds:List D}:∀{outs:qSl}{n n':Nat}{hp hp':Hp},Yb hp0 ds n outs hp=some (n',hp')→n≤n'
 |[],n,n',hp,hp',h=>by simp only[Yb,Qb,Qc] at h;omega
 |(i,d)::l,n,n',hp,hp',h=>by
  simp only[Yb] at h
  split at h
  ·split at h
   ·exact Qbi h
   ·cases h
  ·split at h
   ·have h1:=(QeT (f:=QW) (fun n d=>QhT (n:=n) (d:=d)) (ds:=‹List D›) (n:=n))
    exact Qt h1 (Qbi h)
   ·cases h
  ·split at h
   ·split at h
    ·rename_i h1
     exact Qt (Qc3 h1) (Qbi h)
    ·cases h
   ·cases h
  ·cases h
theorem QhU(h:RH B κ hp F w){I0:Nat→Prop}{I:Nat→Prop}{n0:Nat}(hfree:∀id,n0≤id→id<n0+64→κ id=none){H1:Hp}:
  ∀(cs bs:List D)(us:List Value)(n:Nat)(κ1:Nat→Option KI)(E1:Hp)(os1 os2:List Nat)(n':Nat)(hp':Hp),MRs w I0 κ cs us→YJ n cs bs (E1++H1)=some (n',hp')→n'≤n0+64→Back w' I κ κ1 n0 n E1 os1→
   DRs w' I bs us os2→os2.Nodup→∃E κ2,hp'=E++H1∧Back w' I κ κ2 n0 n' E (os1++os2)∧Kle κ1 κ2
 |[],[],us,n,κ1,E1,os1,os2,n',hp',hm,ht,_,hb,hd,_=>by
  simp only[YJ,Qb,Qc] at ht
  obtain⟨rfl,rfl⟩:=ht
  simp only[DRs] at hd
  rw[hd.2,List.append_nil]
  exact⟨E1,κ1,rfl,hb,fun _ _ h=>h⟩
 |[],_::_,_,_,_,_,_,_,_,_,_,ht,_,_,_,_=>by simp [YJ] at ht
 |_::_,[],_,_,_,_,_,_,_,_,_,ht,_,_,_,_=>by simp [YJ] at ht
 |c::cs0,b0::bs,us,n,κ1,E1,os1,os2,n',hp',hms,ht,hn,hb,hd,hnd=>by
  have hle:=Qc3 ht
  have k01:Kle κ κ1:=hb.kle fun id h1 h2=>hfree id h1 (by omega)
  simp only[DRs] at hd
  obtain⟨v,us',o,o',rfl,rfl,hd1,hd2⟩:=hd
  simp only[MRs] at hms
  obtain⟨v2,us2,hvv,hm,hms⟩:=hms
  simp only[List.cons.injEq] at hvv
  obtain⟨rfl,rfl⟩:=hvv
  simp only[YJ] at ht
  split at ht
  case h_2=>cases ht
  rename_i id cs
  split at ht
  case isFalse=>cases ht
  rename_i hok
  simp only[DR] at hd1
  simp only[MR] at hm
  obtain⟨b,m1,rfl⟩:=hm
  obtain⟨b',cur,ty,os',e1,rfl,e3,e4,e5⟩:=hd1
  simp only[Value.pointer.injEq,Qb,Addr.mk.injEq] at e1
  obtain⟨rfl,_⟩:=e1
  obtain⟨κ2,t2,m2⟩:=QhS (κ:=κ1) (n:=n) hok e5 (List.nodup_cons.1 (Qy.1 hnd).1).2
  have hle2:=Qc3 ht
  have tle:=t2.le
  have k12:Kle κ1 κ2:=t2.kle fun id h1 h2=>by rw[hb.out id (.inr h1)];exact hfree id (by have:=hb.le;omega) (by omega)
  have hb2:Back w' I κ κ2 n0 (Xa QW n cs).2.2 ((id,.box (Xa QW n cs).1)::((Xa QW n cs).2.1++E1)) (os1++(b::os')):=by
   have hid:=k12 _ _ (k01 _ _ m1)
   refine⟨Qt hb.le tle,fun i hi=>?_,?_,?_,?_⟩
   ·rw[t2.out i (by have:=hb.le;omega),hb.out i (by omega)]
   ·simp only[Qh,Qd,QF]
    exact⟨rfl,fun p hp=>hp.elim (t2.owned p) (hb.owned p)⟩
   ·have e:blks w' κ2 ((id,.box (Xa QW n cs).1)::((Xa QW n cs).2.1++E1))=b::(os'++blks w' κ1 E1):=by
     have t:=t2.blks
     unfold blks at t ⊢
     rw[List.flatMap_cons,List.flatMap_append,t]
     simp only[ebk,hid,KI.blk,Z1,Option.toList,List.append_nil,List.singleton_append,List.cons.injEq,true_and,List.append_cancel_left_eq]
     refine Qbe fun p hp=>?_
     obtain⟨k,hk⟩:=(hb.ent p hp).known
     exact QbS (by rw[hk,k12 _ _ hk])
    rw[e,show b::(os'++blks w' κ1 E1)=(b::os')++blks w' κ1 E1 from rfl]
    exact List.perm_append_comm.trans (hb.blks.append_right _)
   ·simp only[Qh,Qd,QF]
    refine⟨?_,fun p hp=>hp.elim (t2.ent p) fun hp=>(hb.ent p hp).mono ⟨fun _ h=>h,fun _ _=>rfl⟩ k12 (fun _ _ _ _ _=>rfl)⟩
    simp only[ER]
    exact⟨b,cur,ty,hid,e3,e4,m2⟩
  obtain⟨E,κ3,e1,e2,e3⟩:=QhU h hfree cs0 bs us' _ κ2 _ (os1++(b::os')) o' n' hp' hms (by simpa using ht) hn hb2 hd2 (Qy.1 hnd).2.1
  exact⟨E,κ3,e1,by rw[←Qx];exact e2,fun _ _ hk=>e3 _ _ (k12 _ _ hk)⟩
theorem Qc4(h:RH B κ hp F w){O:Nat→Prop}{ds:List D}{vs:List Value}(hv:MRs w (Im B κ hp w) κ ds vs)(hst:Stp O w w'){I:Nat→Prop}{n0:Nat}(hfree:∀id,n0≤id→id<n0+64→κ id=none){H1:Hp}:
  ∀(outs:qSl)(n:Nat)(κ1:Nat→Option KI)(E1:Hp)(os1 os2:List Nat)(n':Nat)(hp':Hp),Yb hp ds n outs (E1++H1)=some (n',hp')→n'≤n0+64→Back w' I κ κ1 n0 n E1 os1→
   DRs w' I (outs.map (·.2)) (outs.map fun o=>vs.getD o.1 undef) os2→os2.Nodup→
   ∃E κ2,hp'=E++H1∧Back w' I κ κ2 n0 n' E (os1++os2)∧Kle κ1 κ2
 |[],n,κ1,E1,os1,os2,n',hp',ht,_,hb,hd,_=>by
  simp only[Yb,Qb,Qc] at ht
  obtain⟨rfl,rfl⟩:=ht
  simp only[List.map_nil,DRs] at hd
  rw[hd.2,List.append_nil]
  exact⟨E1,κ1,rfl,hb,fun _ _ h=>h⟩
 |(i,d)::l,n,κ1,E1,os1,os2,n',hp',ht,hn,hb,hd,hnd=>by
  simp only[List.map_cons,DRs] at hd
  obtain⟨v,vs',o,o',hvv,rfl,hd1,hd2⟩:=hd
  simp only[List.cons.injEq] at hvv
  obtain⟨rfl,rfl⟩:=hvv
  have hle:=Qbi ht
  have k01:Kle κ κ1:=hb.kle fun id h1 h2=>hfree id h1 (by omega)
  simp only[Yb] at ht
  split at ht
  ·rename_i id len sz xs hds
   split at ht
   case isFalse=>cases ht
   rename_i hc
   obtain⟨hlen,hsz⟩:=hc
   obtain⟨v,hvg,hm⟩:=hv.get hds
   have hgd:vs.getD i undef=v:=by simp [List.getD,hvg]
   rw[hgd] at hd1
   unfold JX at hsz
   split at hsz
   case h_2=>cases hsz
   rename_i sz' xs0 hlk
   simp only[Qb] at hsz
   subst hsz
   have hent:=h.ent id _ hlk
   simp only[ER] at hent
   simp only[DR] at hd1
   simp only[MR] at hm
   have her:ER w' I κ1 id (.arr sz' xs)∧((κ1 id).bind KI.blk).toList=o:=by
    simp only[ER]
    rcases hm with⟨sz2,m1,rfl,_,_⟩|⟨b,sz2,tot,off,cap,m1,rfl,m2,m3,m4,m5⟩
    ·rcases hd1.2 with⟨_,e1,e2⟩|⟨b,cap,cur,e,us,e1,_⟩
     ·rcases hent.2 with⟨g1,_⟩|⟨b,tot,cur,e,us,g1,_⟩
      ·refine⟨⟨hd1.1,.inl ⟨k01 _ _ g1,e1⟩⟩,?_⟩
       rw[k01 _ _ g1,e2];rfl
      ·rw[m1] at g1;cases g1
     ·cases e1
    ·rcases hd1.2 with⟨e1,_⟩|⟨b',cap',cur,e,us,e1,e2,e3,e4,e5,e6,e7,e8⟩
     ·cases e1
     ·rcases hent.2 with⟨g1,_⟩|⟨b2,tot2,cur2,ty2,us2,g1,g2,g3,_⟩
      ·rw[m1] at g1;cases g1
      ·rw[m1] at g1
       simp only[Qb,KI.arr.injEq] at g1
       obtain⟨rfl,rfl,rfl⟩:=g1
       simp only[Value.slice.injEq,Qb,Addr.mk.injEq] at e1
       obtain⟨⟨rfl,_⟩,_⟩:=e1
       obtain⟨cur3,q1,q2⟩:=hst.len b _ _ _ g2
       rw[e3] at q1
       simp only[Qb,Obj.cells.injEq] at q1
       obtain⟨rfl,_⟩:=q1
       refine⟨⟨hd1.1,.inr ⟨b,tot,_,_,us,k01 _ _ m1,e3,by omega,e7,e8⟩⟩,?_⟩
       rw[k01 _ _ m1,e2];rfl
   have hb2:Back w' I κ κ1 n0 n ((id,.arr sz' xs)::E1) (os1++o):=by
    refine⟨hb.le,hb.out,?_,?_,?_⟩
    ·simp only[Qh,QF];exact⟨rfl,hb.owned⟩
    ·have e:blks w' κ1 ((id,.arr sz' xs)::E1)=((κ1 id).bind KI.blk).toList++blks w' κ1 E1:=by
      unfold blks
      rw[List.flatMap_cons]
      congr 1
      simp only[ebk]
      cases κ1 id<;>simp [Z1]
     rw[e,her.2]
     exact List.perm_append_comm.trans (hb.blks.append_right o)
    ·simp only[Qh,QF];exact⟨her.1,hb.ent⟩
   obtain⟨E,κ2,e1,e2,e3⟩:=Qc4 h hv hst hfree l n κ1 _ (os1++o) o' n' hp' (by simpa using ht) hn hb2 hd2 (Qy.1 hnd).2.1
   exact⟨E,κ2,e1,by rw[←Qx];exact e2,e3⟩
  ·rename_i id cs hds
   split at ht
   case isFalse=>cases ht
   rename_i hok
   obtain⟨v,hvg,hm⟩:=hv.get hds
   have hgd:vs.getD i undef=v:=by simp [List.getD,hvg]
   rw[hgd] at hd1
   simp only[DR] at hd1
   simp only[MR] at hm
   obtain⟨b,m1,rfl⟩:=hm
   obtain⟨b',cur,ty,os',e1,rfl,e3,e4,e5⟩:=hd1
   simp only[Value.pointer.injEq,Qb,Addr.mk.injEq] at e1
   obtain⟨rfl,_⟩:=e1
   obtain⟨κ2,t2,m2⟩:=QhS (κ:=κ1) (n:=n) hok e5 (List.nodup_cons.1 (Qy.1 hnd).1).2
   have hle2:=Qbi ht
   have tle:=t2.le
   have k12:Kle κ1 κ2:=t2.kle fun id h1 h2=>by rw[hb.out id (.inr h1)];exact hfree id (by have:=hb.le;omega) (by omega)
   have hb2:Back w' I κ κ2 n0 (Xa QW n cs).2.2 ((id,.box (Xa QW n cs).1)::((Xa QW n cs).2.1++E1)) (os1++(b::os')):=by
    have hid:=k12 _ _ (k01 _ _ m1)
    refine⟨Qt hb.le tle,fun i hi=>?_,?_,?_,?_⟩
    ·rw[t2.out i (by have:=hb.le;omega),hb.out i (by omega)]
    ·simp only[Qh,Qd,QF]
     exact⟨rfl,fun p hp=>hp.elim (t2.owned p) (hb.owned p)⟩
    ·have e:blks w' κ2 ((id,.box (Xa QW n cs).1)::((Xa QW n cs).2.1++E1))=b::(os'++blks w' κ1 E1):=by
      have t:=t2.blks
      unfold blks at t ⊢
      rw[List.flatMap_cons,List.flatMap_append,t]
      simp only[ebk,hid,KI.blk,Z1,Option.toList,List.append_nil,List.singleton_append,List.cons.injEq,true_and,List.append_cancel_left_eq]
      refine Qbe fun p hp=>?_
      obtain⟨k,hk⟩:=(hb.ent p hp).known
      exact QbS (by rw[hk,k12 _ _ hk])
     rw[e,show b::(os'++blks w' κ1 E1)=(b::os')++blks w' κ1 E1 from rfl]
     exact List.perm_append_comm.trans (hb.blks.append_right _)
    ·simp only[Qh,Qd,QF]
     refine⟨?_,fun p hp=>hp.elim (t2.ent p) fun hp=>(hb.ent p hp).mono ⟨fun _ h=>h,fun _ _=>rfl⟩ k12 (fun _ _ _ _ _=>rfl)⟩
     simp only[ER]
     exact⟨b,cur,ty,hid,e3,e4,m2⟩
   obtain⟨E,κ3,e1,e2,e3⟩:=Qc4 h hv hst hfree l _ κ2 _ (os1++(b::os')) o' n' hp' (by simpa using ht) hn hb2 hd2 (Qy.1 hnd).2.1
   exact⟨E,κ3,e1,by rw[←Qx];exact e2,fun _ _ hk=>e3 _ _ (k12 _ _ hk)⟩
  ·rename_i f cs f' bs hds
   split at ht
   case isFalse=>cases ht
   split at ht
   case h_2=>cases ht
   rename_i n1 hp1 hcap
   obtain⟨v,hvg,hm⟩:=hv.get hds
   have hgd:vs.getD i undef=v:=by simp [List.getD,hvg]
   rw[hgd] at hd1
   simp only[DR] at hd1
   simp only[MR] at hm
   obtain⟨us,rfl,hm⟩:=hm
   obtain⟨us',e1,hd1⟩:=hd1
   simp only[Value.func.injEq,true_and] at e1
   obtain⟨_,rfl⟩:=e1
   have hle2:=Qbi ht
   obtain⟨E2,κ2,rfl,hb2,k12⟩:=QhU h hfree cs bs _ n κ1 E1 os1 o n1 hp1 hm hcap (by omega) hb hd1 (Qy.1 hnd).1
   obtain⟨E,κ3,e1,e2,e3⟩:=Qc4 h hv hst hfree l _ κ2 _ (os1++o) o' n' hp' ht hn hb2 hd2 (Qy.1 hnd).2.1
   exact⟨E,κ3,e1,by rw[←Qx];exact e2,fun _ _ hk=>e3 _ _ (k12 _ _ hk)⟩
  ·cases ht
theorem QhV{I J:Nat→Prop}:∀{ds:List D}{vs:List Value}{os:List Nat},(∀d∈ds,d.flat=true)→DRs w I ds vs os→DRs w J ds vs os
 |[],_,_,_,h=>by simpa only[DRs] using h
 |d::ds,vs,os,hf,h=>by
  simp only[DRs] at h ⊢
  obtain⟨v,vs',o,o',h1,h2,h3,h4⟩:=h
  exact⟨v,vs',o,o',h1,h2,Qod (hf d (by simp)) h3,QhV (fun d hd=>hf d (Qu _ hd)) h4⟩
theorem QhW(h:RH B κ hp F w)(hF:∀k,k<64→F (n+k)){ds:List D}{vs:List Value}(hv:MRs w (Im B κ hp w) κ ds vs){hp1:Hp}{os0:List Nat}(g:Gone w κ hp hp1 os0)(hs:Stp (·∈os0) w w')
  {r:D} {v:Value} {outs:qSl} {I0:Nat→Prop} {os:List Nat} (hok:okA r=true) (hdr:DRs w' I0 (r::outs.map (·.2)) (v::outs.map (fun o=>vs.getD o.1 undef)) os)
  {L:List Nat} (hL:∀id∈L,lk hp1 id≠none) {hp':Hp} (ht:Yb hp ds (XP n r).2.2 outs ((XP n r).2.1++Q9 L hp1)=some (n',hp')) (hn:n'≤n+64) (hnd:os.Nodup)
  (hos:∀b∈os,(b∈os0∨w.heap.size≤b)∧b<w'.heap.size) (hI:∀κ' E,Kle κ κ'→(∀id e,(id,e)∈E→e.owned=true∧∀b,b∈ebk w' κ' (id,e)→b∈os)→hp'=E++Q9 L hp1→∀b,I0 b→Im B κ' (E++Q9 L hp1) w' b):
  ∃κ',RH B κ' hp' (Fr F n) w'∧Nxt B κ κ' hp hp' w w'∧MR w' (Im B κ' hp' w') κ' (XP n r).1 v:=by
 have hfree:∀id,n≤id→id<n+64→κ id=none:=fun id h1 h2=>by
  have:=hF (id-n) (by omega)
  rw[show n+(id-n)=id from by omega] at this
  exact h.fr id this
 simp only[DRs] at hdr
 obtain⟨v0,vs0,o,o',hveq,rfl,hdr1,hdr2⟩:=hdr
 simp only[List.cons.injEq] at hveq
 obtain⟨rfl,rfl⟩:=hveq
 obtain⟨κ1,t1,m1⟩:=Qoe (κ:=κ) (n:=n) hok hdr1 (Qy.1 hnd).1
 obtain⟨E,κ2,rfl,b2,k12⟩:=Qc4 h hv hs hfree outs _ κ1 _ o o' n' hp' ht hn t1.back hdr2 (Qy.1 hnd).2.1
 have kle:=b2.kle fun id h1 h2=>hfree id h1 (by omega)
 have hIm:=hI κ2 E kle (fun id e hm=>⟨b2.owned _ hm,fun b hb=>b2.blks.mem_iff.1 (Qr.2 ⟨(id,e),hm,hb⟩)⟩) rfl
 obtain⟨g1,g2⟩:=Qoa h hF g hs b2 hn hnd hos hL hIm
 exact⟨κ2,g1,g2,m1.mono ⟨hIm,fun _ _=>rfl⟩ k12 _ _⟩
theorem Qof(h:RH B κ hp F w)(hF:∀k,k<64→F (n+k)){f:Nat}{ds:List D}{vs:List Value}{md:List Md}(hv:MRs w (Im B κ hp w) κ ds vs){K:D×qHp→Prop}(hc:YX P n hp f ds md K):
  (∀(vs:Array Value)(w:World),(callFunc f vs).run P w=.ok (.enter f vs) w)∧
  Calls P f vs.toArray w fun e w'=>∃v d hp' κ',e=.returned v∧K (d,hp')∧RH B κ' hp' (Fr F n) w'∧Nxt B κ κ' hp hp' w w'∧MR w' (Im B κ' hp' w') κ' d v:=by
 unfold YX kon at hc
 split at hc
 case h_2=>exact hc.elim
 rename_i q hg
 obtain⟨args,hp1⟩:=q
 obtain⟨fz,r,outs,hfc,ha⟩:=hc
 refine⟨hfc.1,?_⟩
 simp only at ha
 split at ha
 case h_2=>exact ha.elim
 rename_i dh hac
 obtain⟨d,hp'⟩:=dh
 unfold Zy at hac
 split at hac
 case isFalse=>cases hac
 rename_i hcond
 obtain⟨hmu,hok⟩:=hcond
 obtain⟨os0,hgone,hargs⟩:=Qn9 h hv hg
 have hlow:∀b∈os0,(b∈B.os∨B.w.heap.size≤b)∧b<w.heap.size:=fun b hb=>let ⟨id,ho,_⟩:=hgone.own b hb;h.own b ⟨id,ho⟩
 split at hac
 ·rename_i hflat
  rw[Qk] at hflat
  replace hflat:=hflat.2
  simp only[Qk,Qs] at hflat
  split at hac
  case h_2=>cases hac
  rename_i n' hp'' htb
  split at hac
  case isFalse=>cases hac
  rename_i hle
  simp only[Qb,Qc] at hac
  obtain⟨rfl,rfl⟩:=hac
  let Ic:Nat→Prop:=fun b=>((B.I b∨b∈B.os∨B.w.heap.size≤b)∧b<w.heap.size)∧b∉os0
  have hri:RI B κ hp hp1 w Ic:=by
   refine⟨hgone.sub,⟨fun b hb=>⟨⟨hb.1,hb.2.1⟩,fun ho=>?_⟩,fun _ _=>rfl⟩,fun id b ho=>⟨⟨(h.own b ⟨id,hgone.sub.ob ho⟩).1.elim (fun g=>.inr (.inl g)) (fun g=>.inr (.inr g)),(h.own b ⟨id,hgone.sub.ob ho⟩).2⟩,fun hb=>?_⟩⟩
   ·obtain⟨id,ho,_⟩:=hgone.own b ho
    exact hb.2.2 ⟨id,ho⟩
   ·obtain⟨i,hi,hn⟩:=hgone.own b hb
    have:=h.inj _ _ _ (hgone.sub.ob ho) hi
    subst this
    obtain⟨e,_,he,_⟩:=ho
    rw[hn] at he;cases he
  have hdrs:=hargs Ic hri.keep fun d v e _ hm hl=>Qn7 h hri hm hl
  refine (hfc.2 w Ic vs os0 (fun b hb=>⟨hb.1.2,hb.2⟩) hgone.nd (fun b hb=>(hlow b hb).2) hdrs).mono ?_
  rintro e w' ⟨v,os',rfl,hst,hnd,hos,hdr⟩
  have hdr0:DRs w' (fun _=>False) (r::outs.map (·.2)) (v::outs.map (fun o=>vs.getD o.1 undef)) os':=QhV (by
   intro d hd
   rcases Qh.1 hd with rfl|hd
   ·exact hflat.1
   ·obtain⟨o,ho,rfl⟩:=Qv.1 hd
    exact hflat.2 o ho) hdr
  obtain⟨κ',g1,g2,g3⟩:=QhW (L:=[]) h hF hv hgone hst hok hdr0 (by simp) (by simpa only[Q9] using htb) hle hnd hos (fun _ _ _ _ _ b hb=>hb.elim)
  exact⟨v,_,_,κ',rfl,ha,g1,g2,g3⟩
 ·split at hac
  case isFalse=>cases hac
  rename_i hno
  split at hac
  case h_2=>cases hac
  rename_i n' hp'' htb
  split at hac
  case isFalse=>cases hac
  rename_i hle
  simp only[Qb,Qc] at hac
  obtain⟨rfl,rfl⟩:=hac
  let L:=(Xv md ds).flatMap D.ids
  have hrdl:=QhN hg
  have noids:∀(d e:D),ZK d=true→Xz hp1 d=some e→∀id∈d.ids,lk hp1 id≠none:=by
   intro d e hn he id hid
   cases d<;>simp only[D.ids,D.ids0,Qm,List.not_mem_nil,Qr] at hid
   case sl i lo len=>
    subst hid
    intro hne
    simp [Xz,XE,Xl,hne] at he
   case agg cs=>
    obtain⟨c,hc,hi⟩:=hid
    simp only[Xz,XE,Qi] at he
    obtain⟨l,hl,hle⟩:=he
    clear hle
    have hc2:∃e,Xl hp1 c=some e:=by
     clear hn
     induction cs generalizing l with
     |nil=>simp at hc
     |cons c' cs ih=>
      simp only[QU] at hl
      split at hl
      ·rename_i e' es' he' hes'
       rcases Qh.1 hc with rfl|hc
       ·exact⟨e',he'⟩
       ·exact ih hc es' hes'
      ·cases hl
    obtain⟨e',he'⟩:=hc2
    cases c<;>simp only[D.ids0,Qm,List.not_mem_nil] at hi
    all_goals
     subst hi
     intro hne
     simp [Xl,hne] at he'
   case mh i=>simp [ZK] at hn
  have hL:∀id∈L,lk hp1 id≠none:=by
   intro id hid
   obtain⟨d,hd,hi⟩:=Qr.1 hid
   obtain⟨e,he⟩:=hrdl d hd
   exact noids d e (Qs.1 hno d hd) he id hi
  let Ic:Nat→Prop:=fun b=>Im B κ hp w b∨∃id∈L,∃e sz xs,lk hp1 id=some e∧e.frozen=.imm sz xs∧OB κ hp1 w id b
  have hkeep:Keep w w (Im B κ hp w) Ic:=⟨fun _ h=>.inl h,fun _ _=>rfl⟩
  have hrd:∀id∈L,Rd w Ic κ hp1 id:=by
   intro id hid sz xs hl
   rcases hl with hl|hl|⟨s',l,hl,hes,rfl⟩
   ·have hent:=h.ent id _ (hgone.sub _ _ hl)
    simp only[ER] at hent
    refine⟨hent.1,hent.2.imp (fun h=>h) ?_⟩
    rintro⟨b,tot,cur,ty,us,k1,k2,k3,k4,k5⟩
    exact⟨b,tot,us,k1,.inr ⟨id,hid,_,sz,xs,hl,rfl,_,_,hl,rfl,k1,.inl rfl⟩,k4,PE.mono hkeep _ _ _ k5⟩
   ·have hent:=h.ent id _ (hgone.sub _ _ hl)
    simp only[ER] at hent
    refine⟨hent.1,hent.2.imp (fun h=>h) ?_⟩
    rintro⟨b,tot,us,k1,k2,k4,k5⟩
    exact⟨b,tot,us,k1,.inl k2,k4,PE.mono hkeep _ _ _ k5⟩
   ·obtain⟨g1,g2⟩:=h.nstRd (hgone.sub _ _ hl) hes hkeep (fun b ⟨e,k,h1,h2⟩=>.inr ⟨id,hid,_,1,xs,hl,by simp only[Ent.frozen,hes],e,k,by rw[hgone.sub _ _ hl] at h1;cases h1;exact hl,h2⟩)
    exact⟨g1,.inr g2⟩
  have hdrs:=hargs Ic hkeep fun d v e hd hm hl=>Qn2 hkeep (fun id hi=>hrd id (Qr.2 ⟨d,hd,hi⟩)) hm (Qs.1 hno d hd) hl
  have hIc:∀b,Ic b→(B.I b∨b∈B.os∨B.w.heap.size≤b)∧b<w.heap.size:=by
   rintro b (hb|⟨id,_,_,_,_,_,_,ho⟩)
   ·exact⟨hb.1,hb.2.1⟩
   ·have ho:=hgone.sub.ob ho
    exact⟨(h.own b ⟨id,ho⟩).1.elim (fun g=>.inr (.inl g)) (fun g=>.inr (.inr g)),(h.own b ⟨id,ho⟩).2⟩
  have hIo:∀b,Ic b→b∉os0:=by
   intro b hb ho
   obtain⟨i,hi,hn⟩:=hgone.own b ho
   rcases hb with hb|⟨id,_,_,_,_,_,_,ho⟩
   ·exact hb.2.2 ⟨i,hi⟩
   ·have:=h.inj _ _ _ (hgone.sub.ob ho) hi
    subst this
    obtain⟨e,_,he,_⟩:=ho
    rw[hn] at he;cases he
  refine (hfc.2 w Ic vs os0 (fun b hb=>⟨(hIc b hb).2,hIo b hb⟩) hgone.nd (fun b hb=>(hlow b hb).2) hdrs).mono ?_
  rintro e w' ⟨v,os',rfl,hst,hnd,hos,hdr⟩
  obtain⟨κ',g1,g2,g3⟩:=QhW (L:=L) h hF hv hgone hst hok hdr hL htb hle hnd hos (by
   rintro κ' E kle hE rfl b ⟨hb,hno,hlt⟩
   refine⟨?_,hlt,?_⟩
   ·rcases hb with hb|hb|hb
    ·exact (hIc b hb).1
    ·rcases (hlow b hb).1 with g|g
     ·exact .inr (.inl g)
     ·exact .inr (.inr g)
    ·exact .inr (.inr (Qt h.stp.size hb))
   ·rintro⟨id,e,k,h1,h2,h3,h4⟩
    rw[Jy] at h1
    cases hEE:lk E id with
    |some e'=>
     rw[hEE] at h1
     simp only[Option.some_or,Qb] at h1
     subst h1
     exact hno ((hE id e' (J3 hEE)).2 b (QeJ h3 h4))
    |none=>
     rw[hEE] at h1
     simp only[Option.none_or] at h1
     obtain⟨e0,h0,he⟩:=QeO h1
     obtain⟨k',hk'⟩:=h.place (hgone.sub _ _ h0)
     have:=kle _ _ hk'
     rw[h3] at this
     cases this
     have how:e0.owned=true:=by
      rw[he] at h2
      split at h2
      ·cases e0<;>simp [Ent.frozen,Ent.owned] at h2 ⊢
      ·exact h2
     have hob1:OB κ hp1 w id b:=⟨e0,k,h0,how,hk',(he▸h4).thaw_if.congr fun b0 hb0=>by
      have hoo:OB κ hp1 w id b0:=⟨e0,k,h0,how,hk',.inl hb0⟩
      refine hst.block b0 (h.own b0 ⟨id,hgone.sub.ob hoo⟩).2 (fun hin=>?_)
      obtain⟨i,hi,hn⟩:=hgone.own b0 hin
      have:=h.inj _ _ _ (hgone.sub.ob hoo) hi
      subst this
      rw[hn] at h0;cases h0⟩
     have hob:OB κ hp w id b:=hgone.sub.ob hob1
     have hblt:=(h.own b ⟨id,hob⟩).2
     rcases hb with (hb|⟨id0,hid0,e0',sz,xs,hl0,hfz,ho0⟩)|hb|hb
     ·exact hb.2.2 ⟨id,hob⟩
     ·have:=h.inj _ _ _ hob (hgone.sub.ob ho0)
      subst this
      rw[hl0] at h0
      cases h0
      rw[if_pos hid0,hfz] at he
      subst he
      simp [Ent.owned] at h2
     ·obtain⟨i,hi,hn⟩:=hgone.own b hb
      have:=h.inj _ _ _ hob hi
      subst this
      rw[hn] at h0;cases h0
     ·omega)
  exact⟨v,_,_,κ',rfl,ha,g1,g2,g3⟩
end
end Go.Am
namespace Go.Am
open Go
section
variable {P:Program} {B:Base} {κ κ':Nat→Option KI} {hp hp':qHp} {F:Nat→Prop} {w w':World} {sl:qSl} {tm:Array Value} {n:Nat} {d:D}
set_option maxHeartbeats 1000000 in
theorem QhX{op:BinOp}{t:TypeId}{x y:Operand}{o:LOp}(h:ZI P op t x y=some o):(∀f l m,o≠.call f l m)∧∀g l,o≠.callv g l:=by
 unfold ZI at h
 repeat' split at h
 all_goals first
  |(simp only[Qb] at h;subst h;simp)
  |(cases h)
theorem Qog{op:BinOp}{t:TypeId}{x y:Operand}{o:LOp}(h:ZI P op t x y=some o):∀g l,o≠.callm g l:=by
 unfold ZI at h
 repeat' split at h
 all_goals first
  |(simp only[Qb] at h;subst h;simp)
  |(cases h)
theorem Qoh{md:Nat→List Md}{o:Oper}{f:Nat}{l:List X}{m:List Md}(hc:cOp P md o=some (.call f l m)):
  ∃c,o.op=.call c∧c.callee=.value (.func f)∧QU cX c.args.toList=some l:=by
 unfold cOp at hc
 split at hc
 case h_22 c hop=>
  refine⟨c,hop,?_⟩
  split at hc
  case h_7 g hcal=>
   simp only[Qi,LOp.call.injEq] at hc
   obtain⟨l',h1,rfl,rfl,rfl⟩:=hc
   exact⟨hcal,h1⟩
  all_goals (repeat' split at hc)<;>simp at hc
 case h_11=>exact absurd rfl ((QhX hc).1 _ _ _)
 all_goals (repeat' split at hc)<;>simp [QH] at hc
 all_goals (repeat' split at hc)<;>simp at hc
set_option maxHeartbeats 1000000 in
theorem Qoi{md:Nat→List Md}{o:Oper}{g:X}{l:List X}(hc:cOp P md o=some (.callv g l)):
  ∃c x,o.op=.call c∧c.callee=.value x∧cX x=some g∧QU cX c.args.toList=some l:=by
 unfold cOp at hc
 split at hc
 case h_22 c hop=>
  split at hc
  case h_8 x _ hcal=>
   split at hc
   ·split at hc
    ·simp only[Qb,LOp.callv.injEq] at hc
     obtain⟨rfl,rfl⟩:=hc
     exact⟨c,x,hop,hcal,by assumption,by assumption⟩
    ·simp at hc
   ·cases hc
  all_goals (repeat' split at hc)<;>simp at hc
 case h_11=>exact absurd rfl ((QhX hc).2 _ _)
 all_goals (repeat' split at hc)<;>simp [QH] at hc
 all_goals (repeat' split at hc)<;>simp at hc
set_option maxHeartbeats 1000000 in
theorem Qoj{md:Nat→List Md}{o:Oper}{g:X}{l:List X}(hc:cOp P md o=some (.callm g l)):
  ∃c x,o.op=.call c∧c.callee=.value x∧cX x=some g∧QU cX c.args.toList=some l:=by
 unfold cOp at hc
 split at hc
 case h_22 c hop=>
  split at hc
  case h_8 x _ hcal=>
   split at hc
   ·split at hc
    ·simp at hc
    ·simp only[Qb,LOp.callm.injEq] at hc
     obtain⟨rfl,rfl⟩:=hc
     exact⟨c,x,hop,hcal,by assumption,by assumption⟩
   ·cases hc
  all_goals (repeat' split at hc)<;>simp at hc
 case h_11=>exact absurd rfl (Qog hc _ _)
 all_goals (repeat' split at hc)<;>simp [QH] at hc
 all_goals (repeat' split at hc)<;>simp at hc
set_option maxHeartbeats 1000000 in
theorem Qok{md:Nat→List Md}{o:Oper}{g:Bool}{x:X}(hc:cOp P md o=some (.isnil g x)):
  ∃op t xo y gd e,o.op=.binOp op t xo y gd∧P.underlying t=some (.slice e)∧cX xo=some x∧cX y=some (.k (.nl 0))∧((op=.eql∧g=false)∨(op=.neq∧g=true)):=by
 unfold cOp at hc
 split at hc
 case h_11 op t xo y gd hop=>
  unfold ZI at hc
  split at hc
  ·simp at hc
  ·repeat' split at hc
   all_goals simp at hc
  ·repeat' split at hc
   all_goals simp at hc
  ·repeat' split at hc
   all_goals simp at hc
  ·rename_i e x' hu hx hy
   split at hc
   ·simp only[Qb,LOp.isnil.injEq] at hc
    obtain⟨rfl,rfl⟩:=hc
    exact⟨_,t,xo,y,gd,_,hop,hu,hx,hy,.inl ⟨rfl,rfl⟩⟩
   ·simp only[Qb,LOp.isnil.injEq] at hc
    obtain⟨rfl,rfl⟩:=hc
    exact⟨_,t,xo,y,gd,_,hop,hu,hx,hy,.inr ⟨rfl,rfl⟩⟩
   ·simp at hc
  ·simp at hc
 case h_22 c hop=>
  split at hc
  all_goals (repeat' split at hc)<;>simp at hc
  all_goals (repeat' split at hc)<;>simp at hc
 all_goals (repeat' split at hc)<;>simp [QH] at hc
 all_goals (repeat' split at hc)<;>simp at hc
set_option maxHeartbeats 1000000 in
theorem Qol{md:Nat→List Md}{o:Oper}{a x:X}(hc:cOp P md o=some (.stf a x)):
  ∃t ao xo,o.op=.store t ao xo∧cX ao=some a∧cX xo=some x∧Xi P t=some 1:=by
 unfold cOp at hc
 split at hc
 case h_10 t ao xo hop=>
  split at hc
  case h_2=>cases hc
  rename_i n a' x' hz ha hx
  split at hc
  ·cases hc
  split at hc
  ·split at hc<;>simp at hc
  split at hc
  ·rename_i hn
   simp only[Qb,LOp.stf.injEq] at hc
   obtain⟨rfl,rfl⟩:=hc
   exact⟨t,ao,xo,hop,ha,hx,by rw[hz,hn.2]⟩
  ·cases hc
 case h_22 c hop=>
  split at hc
  all_goals (repeat' split at hc)<;>simp at hc
  all_goals (repeat' split at hc)<;>simp at hc
 case h_11=>unfold ZI at hc;(repeat' split at hc)<;>simp at hc
 all_goals (repeat' split at hc)<;>simp [QH] at hc
 all_goals (repeat' split at hc)<;>simp at hc
theorem Qom{md:Nat→List Md}{o:Oper}{x:X}(hc:cOp P md o=some (.nxM x)):∃xo,o.op=.next xo false∧cX xo=some x:=by
 unfold cOp at hc
 split at hc
 case h_28 xo hop=>
  simp only[Qi,LOp.nxM.injEq] at hc
  obtain⟨x',hx,rfl⟩:=hc
  exact⟨xo,hop,hx⟩
 case h_22 c hop=>
  split at hc
  all_goals (repeat' split at hc)<;>simp at hc
  all_goals (repeat' split at hc)<;>simp at hc
 case h_11=>unfold ZI at hc;(repeat' split at hc)<;>simp at hc
 all_goals (repeat' split at hc)<;>simp [QH] at hc
 all_goals (repeat' split at hc)<;>simp at hc
theorem Qon(h:RH B κ hp F w){v:Value}{e:D}{hp':qHp}(hm:MR w (Im B κ hp w) κ d v)(hc:QbK hp d=some (e,hp')):RH B κ hp' F w∧Nxt B κ κ hp hp' w w∧DR w (Im B κ hp' w) e v []:=by
 have pure:(if YS d=true then some (d,hp) else none)=some (e,hp')→RH B κ hp' F w∧Nxt B κ κ hp hp' w w∧DR w (Im B κ hp' w) e v []:=fun hc=>by
  split at hc
  ·rename_i ho
   simp only[Qb,Qc] at hc
   obtain⟨rfl,rfl⟩:=hc
   exact⟨h,Nxt.refl _ _ _ _,Qer hm ho⟩
  ·cases hc
 cases d
 case pt id off=>
  simp only[QbK] at hc
  split at hc
  case h_2=>cases hc
  rename_i cs hl
  split at hc
  case isFalse=>cases hc
  rename_i hcond
  simp only[Qb,Qc] at hc
  obtain⟨rfl,rfl⟩:=hc
  obtain⟨b,cur,ty,hk,hob,hg,h1,hms⟩:=h.box hl
  obtain⟨k1,k2⟩:=h.forget id
  refine⟨k1,k2,?_⟩
  simp only[MR,hk,Qb,KI.box.injEq] at hm
  obtain⟨b',rfl,rfl⟩:=hm
  simp only[DR]
  obtain⟨rfl,hall⟩:=hcond
  refine⟨trivial,b,0,cur.toList,rfl,⟨?_,(h.own b ⟨id,hob⟩).2,?_⟩,Mem.of_cells hg (fun j u hj=>by simpa using hj),Qg2 (hms.mono k2.keep (fun _ _ h=>h)) hall h1⟩
  ·rcases (h.own b ⟨id,hob⟩).1 with h|h
   ·exact .inr (.inl h)
   ·exact .inr (.inr h)
  ·rintro⟨id',e',k',g1,g2,g3,g4⟩
   rw[Yo] at g1
   split at g1
   ·cases g1
   ·rename_i hne
    exact hne (h.inj id' id b ⟨e',k',g1,g2,g3,g4⟩ hob)
 all_goals exact pure hc
theorem QhY:∀{ds:List D}{hp hp':qHp}{vs:List Value}{es:List D},RH B κ hp F w→MRs w (Im B κ hp w) κ ds vs→XO QbK hp ds=some (es,hp')→RH B κ hp' F w∧Nxt B κ κ hp hp' w w∧DRs w (Im B κ hp' w) es vs []
 |[],hp,hp',vs,es,h,hm,hc=>by
  simp only[XO,Qb,Qc] at hc
  obtain⟨rfl,rfl⟩:=hc
  simp only[MRs] at hm
  exact⟨h,Nxt.refl _ _ _ _,by simp [DRs,hm]⟩
 |d::ds,hp,hp',vs,es,h,hm,hc=>by
  simp only[XO] at hc
  split at hc
  case h_2=>cases hc
  rename_i e hp1 h1
  split at hc
  case h_2=>cases hc
  rename_i l hp2 h2
  simp only[Qb,Qc] at hc
  obtain⟨rfl,rfl⟩:=hc
  simp only[MRs] at hm
  obtain⟨v,vs',rfl,hd,hds⟩:=hm
  obtain⟨g1,g2,g3⟩:=Qon h hd h1
  obtain⟨g4,g5,g6⟩:=QhY g1 (hds.mono g2.keep (fun _ _ h=>h)) h2
  refine⟨g4,g2.trans g5,?_⟩
  simp only[DRs]
  exact⟨v,vs',[],[],rfl,rfl,g3.mono g5.keep _ _ _ (by simp),g6⟩
theorem Qc5{I:Nat→Prop}:∀{ds es:List D}{us vs:List Value},MRs w I κ ds us→MRs w I κ es vs→MRs w I κ (ds++es) (us++vs)
 |[],es,us,vs,h1,h2=>by simp only[MRs] at h1;subst h1;exact h2
 |d::ds,es,us,vs,h1,h2=>by
  simp only[MRs] at h1
  obtain⟨v,vs',rfl,hd,hds⟩:=h1
  simp only[List.cons_append,MRs]
  exact⟨v,_,rfl,hd,Qc5 hds h2⟩
theorem Qbj{a:Act}(hs:RS B κ hp w sl a.tmps){dst:Option Nat}(hd:∀t,dst=some t→t<B.N∧t∉B.fx){v:Value}(hm:MR w (Im B κ hp w) κ d v):
  RS B κ hp w (Q5 dst d sl) (a.put dst v).tmps∧(a.put dst v).defers=a.defers:=by
 cases dst with
 |none=>exact⟨hs,rfl⟩
 |some t=>exact⟨hs.put (hd t rfl).1 (hd t rfl).2 hm,rfl⟩
theorem Qoo{s:St}{a:Act}(h:RH B κ s.hp F w)(hs:RS B κ s.hp w s.sl a.tmps)(hF:∀k,k<64→F (n+k)){md:Nat→List Md}{o:Oper}{op:LOp}{g:Option (Nat×Bool)}(hc:cOp P md o=some op)
  (hd:∀t,o.dst=some t→t<B.N∧t∉B.fx) {K:St→Prop} (hk:XX P n ⟨o.dst,op,g⟩ s K) {next:Act→World→Prop} {Q:Exit→Act→World→Prop}
  (hn:∀κ' s' a' w',K s'→RH B κ' s'.hp (Fr F n) w'→RS B κ' s'.hp w' s'.sl a'.tmps→Nxt B κ κ' s.hp s'.hp w w'→a'.defers=a.defers→next a' w'):o.wp P a w next Q:=by
 obtain⟨sl,hp,nx⟩:=s
 obtain⟨tm,df⟩:=a
 have eff_case:(∀f l m,op≠.call f l m)→(∀x l,op≠.callv x l)→(∀x l,op≠.callm x l)→(∀g x,op≠.isnil g x)→(∀a x,op≠.stf a x)→(∀x,op≠.nxM x)→o.wp P ⟨tm,df⟩ w next Q:=by
  intro h1 h2 h4 h3 h5 h6
  have hk':kon (eff n sl hp op) fun p=>K ⟨Q5 o.dst p.1 sl,p.2,nx⟩:=by
   unfold XX at hk
   cases op<;>first|exact hk|exact absurd rfl (h1 _ _ _)|exact absurd rfl (h2 _ _)|exact absurd rfl (h4 _ _)|exact absurd rfl (h3 _ _)|exact absurd rfl (h5 _ _)|exact absurd rfl (h6 _)
  unfold kon at hk'
  split at hk'
  case h_2=>exact hk'.elim
  rename_i p he
  obtain⟨κ',v,w',hr,hR,hN,hm⟩:=Qn1 (df:=df) h hs hF hc he
  have hgo:next (Act.put ⟨tm,df⟩ o.dst v) w':=by
   obtain⟨g1,g2⟩:=Qbj (a:=⟨tm,df⟩) (hs.next hN) hd hm
   exact hn κ' _ _ w' hk' hR g1 hN g2
  unfold Oper.wp
  rcases hr with hr|⟨hr,rfl⟩
  ·rw[hr];exact hgo
  ·rw[hr];exact hgo
 have call_case:∀(f:Nat)(ds:List D)(vs:List Value)(md:List Md),(execOp (Act.eval ⟨tm,df⟩) o).run P w=(callFunc f vs.toArray).run P w→MRs w (Im B κ hp w) κ ds vs→
   (YX P n hp f ds md fun p=>K ⟨Q5 o.dst p.1 sl,p.2,nx⟩)→o.wp P ⟨tm,df⟩ w next Q:=by
  intro f ds vs md hrun hvs hcall
  obtain⟨h1,h2⟩:=Qof h hF hvs hcall
  unfold Oper.wp
  rw[hrun,h1]
  refine Calls.mono h2 ?_
  rintro e w' ⟨v,d,hp',κ',rfl,hK,hR,hN,hm⟩
  obtain⟨g1,g2⟩:=Qbj (a:=⟨tm,df⟩) (hs.next hN) hd hm
  exact hn κ' _ _ w' hK hR g1 hN g2
 cases op with
 |call f l md'=>
  obtain⟨c,hop,hcal,hl⟩:=Qoh hc
  simp only[XX] at hk
  unfold kon at hk
  split at hk
  case h_2=>exact hk.elim
  rename_i ds hds
  refine call_case f ds (c.args.toList.map (Act.eval ⟨tm,df⟩)) md' ?_ (Qaz hs hl hds) hk
  have:(List.map (Act.eval ⟨tm,df⟩) c.args.toList).toArray=c.args.map (Act.eval ⟨tm,df⟩):=by apply Array.toList_inj.1;simp
  rw[this]
  have hf:Act.eval ⟨tm,df⟩ (.func f)=.func (.func f) #[] #[]:=rfl
  unfold execOp
  simp only[hop,resolve,hcal,hf,Deferred.ofValue,Sem.run_bind,Sem.run_pure,Result.andThen_ok,invoke,Array.append_empty,Array.empty_append]
 |callv x l=>
  obtain⟨c,xo,hop,hcal,hx,hl⟩:=Qoi hc
  simp only[XX] at hk
  unfold kon at hk
  split at hk
  case h_2=>exact hk.elim
  rename_i q hq
  split at hk
  case h_2=>exact hk.elim
  rename_i ds hds
  cases hx':ev sl x with
  |none=>rw[hx'] at hq;cases hq
  |some e=>
   rw[hx'] at hq
   simp only[Option.bind_some] at hq
   cases e<;>simp only[Jv,Qb,reduceCtorEq] at hq
   rename_i f caps
   subst hq
   have hm:=Xd (df:=df) hs hx hx'
   simp only[MR] at hm
   obtain⟨us,hu,hus⟩:=hm
   refine call_case f (ds++caps) (c.args.toList.map (Act.eval ⟨tm,df⟩)++us.toList) [] ?_ (Qc5 (Qaz hs hl hds) hus) hk
   have:(List.map (Act.eval ⟨tm,df⟩) c.args.toList++us.toList).toArray=c.args.map (Act.eval ⟨tm,df⟩)++us:=by simp
   rw[this]
   unfold execOp
   simp only[hop,resolve,hcal,hu,Deferred.ofValue,Sem.run_bind,Sem.run_pure,Result.andThen_ok,invoke,Array.empty_append]
 |callm x l=>
  obtain⟨c,xo,hop,hcal,hx,hl⟩:=Qoj hc
  simp only[XX] at hk
  unfold kon at hk
  split at hk
  case h_2=>exact hk.elim
  rename_i q hq
  split at hk
  case h_2=>exact hk.elim
  rename_i ds hds
  cases hx':ev sl x with
  |none=>rw[hx'] at hq;cases hq
  |some e=>
   rw[hx'] at hq
   simp only[Option.bind_some] at hq
   cases e<;>simp only[Jv,Qb,reduceCtorEq] at hq
   rename_i f caps
   subst hq
   have hm:=Xd (df:=df) hs hx hx'
   simp only[MR] at hm
   obtain⟨us,hu,hus⟩:=hm
   refine call_case f (ds++caps) (c.args.toList.map (Act.eval ⟨tm,df⟩)++us.toList) (ds.map (fun _=>Md.rd)++caps.map fun _=>Md.mp) ?_ (Qc5 (Qaz hs hl hds) hus) hk
   have:(List.map (Act.eval ⟨tm,df⟩) c.args.toList++us.toList).toArray=c.args.map (Act.eval ⟨tm,df⟩)++us:=by simp
   rw[this]
   unfold execOp
   simp only[hop,resolve,hcal,hu,Deferred.ofValue,Sem.run_bind,Sem.run_pure,Result.andThen_ok,invoke,Array.empty_append]
 |isnil g x=>
  obtain⟨bop,t,xo,y,gd,e,hop,hu,hx,hy,hg⟩:=Qok hc
  simp only[XX] at hk
  unfold kon at hk
  split at hk
  case h_2=>exact hk.elim
  rename_i q hq
  cases hx':ev sl x with
  |none=>rw[hx'] at hq;cases hq
  |some d=>
  rw[hx',Option.bind_some] at hq
  have hm:=Xd (df:=df) hs hx hx'
  have hy':Act.eval ⟨tm,df⟩ y=.slice none 0 0:=by
   have:=Xd (df:=df) hs hy (d:=.nl 0) rfl
   simpa only[MR] using this
  have hval:∃a n c,Act.eval ⟨tm,df⟩ xo=.slice a n c∧(a.isNone=true→q.1)∧(a.isNone=false→q.2):=by
   cases d<;>simp only[QcN,reduceCtorEq,Qb] at hq
   case nl=>subst hq;simp only[MR] at hm;exact⟨_,_,_,hm,by simp,by simp⟩
   case lst sz xs=>
    subst hq
    simp only[MR,DR] at hm
    rcases hm.2.2 with⟨⟨_,h1⟩,h2⟩|⟨b,off,cap,us,h1,_⟩
    ·exact⟨_,_,_,h1,fun _=>h2,fun _=>trivial⟩
    ·exact⟨_,_,_,h1,by simp,fun _=>trivial⟩
   case sl id lo len=>
    subst hq
    simp only[MR] at hm
    rcases hm with⟨sz,_,h1,_,h2⟩|⟨b,sz,tot,off,cap,_,h1,_⟩
    ·exact⟨_,_,_,h1,fun _=>h2,fun _=>trivial⟩
    ·exact⟨_,_,_,h1,by simp,fun _=>trivial⟩
  obtain⟨a,m,c,hv,hq1,hq2⟩:=hval
  have hrun:(execOp (Act.eval ⟨tm,df⟩) o).run P w=.ok (.value (.bool (if g then !a.isNone else a.isNone))) w:=by
   rcases hg with⟨rfl,rfl⟩|⟨rfl,rfl⟩
   ·have:=Lib.run_eql_slice_nil (P:=P) w t e a m c 0 0 hu
    simp [execOp,hop,hv,hy',this,eqGuard]
   ·have:=run_neq_slice_nil_any (P:=P) w t e a m c 0 0 hu
    simp [execOp,hop,hv,hy',this,eqGuard]
  unfold Oper.wp
  rw[hrun]
  obtain⟨g1,g2⟩:=Qbj (a:=⟨tm,df⟩) hs hd (d:=.bool (if g then !a.isNone else a.isNone)) (v:=.bool (if g then !a.isNone else a.isNone)) (by simp only[MR])
  refine hn κ ⟨Q5 o.dst (.bool (if g then !a.isNone else a.isNone)) sl,hp,nx⟩ _ w ?_ (h.same Fr.sub) g1 (Nxt.refl _ _ _ _) g2
  cases ha:a.isNone
  ·have:=hk.2 (hq2 ha)
   cases g<;>simpa [ha] using this
  ·have:=hk.1 (hq1 ha)
   cases g<;>simpa [ha] using this
 |stf a x=>
  obtain⟨t,ao,xo,hop,ha,hx,hz⟩:=Qol hc
  simp only[XX] at hk
  unfold kon at hk
  split at hk
  case h_2=>exact hk.elim
  rename_i hp2 hq
  unfold Qep at hq
  split at hq
  case h_2=>cases hq
  rename_i id off f cs hda hdx
  split at hq
  case h_2=>cases hq
  rename_i es hp1 hex
  split at hq
  case h_2=>cases hq
  rename_i l hl
  split at hq
  case isFalse=>cases hq
  rename_i hlen
  simp only[Qb] at hq
  subst hq
  have hva:=Xd (df:=df) hs ha hda
  have hvx:=Xd (df:=df) hs hx hdx
  simp only[MR] at hvx
  obtain⟨vs,hvx,hms0⟩:=hvx
  obtain⟨k1,k2,k3⟩:=QhY h hms0 hex
  obtain⟨b,cur,ty,hkb,hob,hg,h1,hms⟩:=k1.box hl
  simp only[MR,hkb,Qb,KI.box.injEq] at hva
  obtain⟨b',rfl,hva⟩:=hva
  have hcl:=hms.length
  have hce:(Act.eval ⟨tm,df⟩ xo).cells=#[Act.eval ⟨tm,df⟩ xo]:=by rw[hvx];rfl
  have hsz:(Act.eval ⟨tm,df⟩ xo).cells.size=1:=by rw[hce];rfl
  have g2:∀u∈(Act.eval ⟨tm,df⟩ xo).cells.toList,u.oneCell'=true:=by rw[hce];intro u hu;simp at hu;subst hu;rw[hvx];rfl
  have hr:=QeD (P:=P) hz hsz g2 hg (off:=off) (by simp at hcl;omega)
  have hst:=QaB w b (cur.toList.take off++(Act.eval ⟨tm,df⟩ xo).cells.toList++cur.toList.drop (off+1)).toArray hg (by simp only[List.size_toArray,Qj,Qo,List.length_drop,Array.length_toList,hsz];simp at hcl;omega)
  obtain⟨q1,q2⟩:=k1.change (F':=Fr F n) hob hst Fr.sub (ent:=.box (XQ l off [.clo f es])) (fun keep=>by
   simp only[ER]
   refine⟨b,_,ty,hkb,setRow_heap w b cur _ ty _ hg,?_,?_⟩
   ·intro u hu
    simp only[Qd] at hu
    rcases hu with (hu|hu)|hu
    ·exact h1 u (Qw hu)
    ·exact g2 u hu
    ·exact h1 u (QM hu)
   ·have hsp:XQ l off [.clo f es]=l.take off++[.clo f es]++l.drop (off+1):=rfl
    have hmid:MRs w (Im B κ hp1 w) κ [.clo f es] (Act.eval ⟨tm,df⟩ xo).cells.toList:=by
     rw[hce]
     simp only[MRs]
     exact⟨_,[],rfl,by rw[hvx];exact MR.of_DR _ _ (by simp only[DR];exact⟨vs,rfl,k3⟩),rfl⟩
    have hh:=MRs.append.2 ⟨_,_,rfl,MRs.append.2 ⟨_,_,rfl,((hms.take off).1).mono keep (fun _ _ h=>h),hmid.mono keep (fun _ _ h=>h)⟩,((hms.take (off+1)).2).mono keep (fun _ _ h=>h)⟩
    rw[←hsp] at hh
    exact hh)
  obtain⟨p1,p2⟩:=Qbj (a:=⟨tm,df⟩) (hs.next (k2.trans q2)) hd (d:=.undef) (v:=undef) (by simp only[MR];exact QbM)
  unfold Oper.wp
  have hrun:(execOp (Act.eval ⟨tm,df⟩) o).run P w=.ok .skip (w.setRow b (cur.toList.take off++(Act.eval ⟨tm,df⟩ xo).cells.toList++cur.toList.drop (off+1)).toArray):=by
   simp [execOp,hop,Instr.storeAt,Instr.sureAddr,hva,hr]
  rw[hrun]
  exact hn κ ⟨Q5 o.dst .undef sl,_,nx⟩ _ _ hk q1 p1 (k2.trans q2) p2
 |nxM x=>
  obtain⟨xo,hop,hx⟩:=Qom hc
  simp only[XX] at hk
  unfold kon at hk
  split at hk
  case h_2=>exact hk.elim
  rename_i q hq
  unfold nxO at hq
  split at hq
  case h_2=>cases hq
  rename_i id off hdx
  split at hq
  case h_2=>cases hq
  rename_i m es seen hl
  split at hq
  case isFalse=>cases hq
  rename_i hoff
  subst hoff
  simp only[Qb] at hq
  subst hq
  have fin:∀(d:D)(hp':qHp),Res P B κ hp hp' (Fr F n) w ((execOp (Act.eval ⟨tm,df⟩) o).run P w) d→K ⟨Q5 o.dst d sl,hp',nx⟩→o.wp P ⟨tm,df⟩ w next Q:=by
   rintro d hp' ⟨κ',v,w',hr,hR,hN,hm⟩ hK
   have hgo:next (Act.put ⟨tm,df⟩ o.dst v) w':=by
    obtain⟨g1,g2⟩:=Qbj (a:=⟨tm,df⟩) (hs.next hN) hd hm
    exact hn κ' _ _ w' hK hR g1 hN g2
   unfold Oper.wp
   rcases hr with hr|⟨hr,rfl⟩
   ·rw[hr];exact hgo
   ·rw[hr];exact hgo
  rcases QnV (n:=n) (df:=df) h hs hop hx hdx hl with⟨h1,h2⟩|⟨j,k,v,h1,h2,h3⟩
  ·exact fin _ _ h2 (hk.1 h1)
  ·exact fin _ _ h3 (hk.2 j k v h1 h2)
 |_=>exact eff_case (fun _ _ _=>by simp) (fun _ _=>by simp) (fun _ _=>by simp) (fun _ _=>by simp) (fun _ _=>by simp) (fun _=>by simp)
theorem QhZ{s:St}{a:Act}(h:RH B κ s.hp F w)(hs:RS B κ s.hp w s.sl a.tmps)(hF:∀k,k<64→F (n+k)){H:Hints}(hfx:B.fx=H.fx){ops:Array Oper}{o:Oper}{li:LI}(hc:cI P H B.N ops o=some li)
  {K:St→Prop} (hk:YD P n li s K) {next:Act→World→Prop} {Q:Exit→Act→World→Prop}
  (hn:∀κ' s' a' w',K s'→RH B κ' s'.hp (Fr F n) w'→RS B κ' s'.hp w' s'.sl a'.tmps→Nxt B κ κ' s.hp s'.hp w w'→a'.defers=a.defers→next a' w'):
  if Region.wanted o (yielded ops a.tmps)=true then o.wp P a w next Q else next (a.put o.dst undef) w:=by
 unfold cI at hc
 split at hc
 case h_2=>cases hc
 rename_i g hg
 generalize hopd:(cOp P H.md o).getD .bad=op at hc
 have hli:li=⟨o.dst,op,g⟩∧∀t,o.dst=some t→t<B.N∧t∉B.fx:=by
  split at hc
  ·rename_i t ht
   split at hc
   ·rename_i hlt
    simp only[Qb] at hc
    refine⟨by rw[←hc,ht],fun t' ht'=>?_⟩
    rw[ht,Qb] at ht'
    subst ht'
    exact⟨hlt.1,by rw[hfx];exact hlt.2⟩
   ·cases hc
  ·rename_i ht
   simp only[Qb] at hc
   exact⟨by rw[←hc,ht],fun t' ht'=>by rw[ht] at ht';cases ht'⟩
 obtain⟨rfl,hd⟩:=hli
 have skip:K ⟨Q5 o.dst .undef s.sl,s.hp,s.nx⟩→next (a.put o.dst undef) w:=by
  intro hK
  obtain⟨g1,g2⟩:=Qbj (a:=a) hs hd (d:=.undef) (v:=undef) (by simp only[MR];exact QbM)
  exact hn κ _ _ w hK (h.same Fr.sub) g1 (Nxt.refl _ _ _ _) g2
 have act:XX P n ⟨o.dst,op,g⟩ s K→o.wp P a w next Q:=fun hK=>by
  cases hop:cOp P H.md o with
  |some op'=>
   rw[hop,Option.getD_some] at hopd
   subst hopd
   exact Qoo h hs hF hop hd hK hn
  |none=>
   rw[hop,Option.getD_none] at hopd
   subst hopd
   exact absurd hK (by simp [XX,eff,kon])
 cases hgo:o.guard with
 |none=>
  rw[hgo] at hg
  simp only[QcI,Qb] at hg
  subst hg
  have:Region.wanted o (yielded ops a.tmps)=true:=by simp [Region.wanted,hgo]
  rw[if_pos this]
  exact act hk
 |some jw=>
  obtain⟨j,want⟩:=jw
  rw[hgo] at hg
  simp only[QcI] at hg
  split at hg
  case h_2=>cases hg
  rename_i t ht
  simp only[Qb] at hg
  subst hg
  have fin:∀{p q r:Prop},Zh (lk s.sl t) p q r→(∃c:Bool,yielded ops a.tmps j=some c∧(c=true→p)∧(c=false→q))∨(yielded ops a.tmps j=none∧r):=by
   intro p q r hb
   unfold Zh at hb
   split at hb
   ·rename_i c hlk
    obtain⟨v,hv,hm⟩:=hs.sl t _ hlk
    simp only[MR] at hm
    subst hm
    exact .inl ⟨c,by simp [yielded,ht,hv],hb.1,hb.2⟩
   ·rename_i hlk
    obtain⟨v,hv,hm⟩:=hs.sl t _ hlk
    simp only[MR] at hm
    refine .inr ⟨?_,hb⟩
    simp only[yielded,ht,Option.bind_some,hv]
    split
    ·rename_i b hb;exact absurd (Option.some.inj hb) (hm b)
    ·rfl
   ·exact hb.elim
  cases want with
  |true=>
   rcases fin hk with⟨c,hc,h1,h2⟩|⟨hc,h0⟩
   ·have hw:Region.wanted o (yielded ops a.tmps)=c:=by simp [Region.wanted,hgo,hc]
    rw[hw]
    cases c
    ·rw[if_neg (by simp)];exact skip (h2 rfl)
    ·rw[if_pos rfl];exact act (h1 rfl)
   ·have hw:Region.wanted o (yielded ops a.tmps)=false:=by simp [Region.wanted,hgo,hc]
    rw[hw,if_neg (by simp)];exact skip h0
  |false=>
   rcases fin hk with⟨c,hc,h1,h2⟩|⟨hc,h0⟩
   ·have hw:Region.wanted o (yielded ops a.tmps)=!c:=by simp [Region.wanted,hgo,hc]
    rw[hw]
    cases c
    ·rw[if_pos (by simp)];exact act (h2 rfl)
    ·rw[if_neg (by simp)];exact skip (h1 rfl)
   ·have hw:Region.wanted o (yielded ops a.tmps)=false:=by simp [Region.wanted,hgo,hc]
    rw[hw,if_neg (by simp)];exact skip h0
theorem Qh0{H:Hints}(hfx:B.fx=H.fx){ops:Array Oper}{Q:Exit→Act→World→Prop}:∀{os:List Oper}{l:List LI}{n:Nat}{κ:Nat→Option KI}{s:St}{a:Act}{w:World}{K:St→Prop},QU (cI P H B.N ops) os=some l→
  RH B κ s.hp (fun id=>n≤id) w→RS B κ s.hp w s.sl a.tmps→Jw P l n s K→
  (∀κ' s' a' w',K s'→RH B κ' s'.hp (fun id=>s'.nx≤id) w'→RS B κ' s'.hp w' s'.sl a'.tmps→Nxt B κ κ' s.hp s'.hp w w'→a'.defers=a.defers→Q .normal a' w')→wpList P ops Q os a w
 |[],l,n,κ,s,a,w,K,hc,h,hs,hk,hn=>by
  simp only[QU,Qb] at hc
  subst hc
  exact hn κ ⟨s.sl,s.hp,n⟩ a w hk h hs (Nxt.refl _ _ _ _) rfl
 |o::os,l,n,κ,s,a,w,K,hc,h,hs,hk,hn=>by
  simp only[QU] at hc
  split at hc
  case h_2=>cases hc
  rename_i li l' hli hl'
  simp only[Qb] at hc
  subst hc
  have:=QhZ (Q:=Q) (next:=wpList P ops Q os) h hs (fun k _=>Nat.le_add_right _ _) hfx hli hk (fun κ1 s1 a1 w1 hK hR hS hN hD=>
   Qh0 hfx hl' (hR.same (fun id (hid:n+64≤id)=>⟨by omega,.inr hid⟩)) hS hK (fun κ2 s2 a2 w2 hK2 hR2 hS2 hN2 hD2=>hn κ2 s2 a2 w2 hK2 hR2 hS2 (hN.trans hN2) (hD2.trans hD)))
  unfold wpList
  split at this
  ·rename_i hw;rw[if_pos hw];exact .inl this
  ·rename_i hw;rw[if_neg hw];exact this
end
end Go.Am
