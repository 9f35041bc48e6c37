/- One instruction of the machine is one operation of the model. -/
import Derived.Test.YtgllpjliaepbdaaGreatAmPd
import Derived.Test.YtgllpjliaepbdaaGreatAmPe
import Derived.Lib.SliceRun
import Derived.WalkSpells
namespace Go.Am
open Go
section
variable {P:Program} {B:Base} {κ κ':Nat→Option KI} {hp hp':qHp} {F:Nat→Prop} {w w':World} {sl:qSl} {tm:Array Value} {n:Nat} {d:D}
set_option maxHeartbeats 1000000 in
theorem QnN{op:BinOp}{t:TypeId}{x y:Operand}{o:LOp}(h:Qbl P op t x y=some o):(∀f l m,o≠.call f l m)∧∀g l,o≠.callv g l:=by
 unfold Qbl at h
 repeat' split at h
 all_goals first
  |(simp only[Qb] at h;subst h;simp)
  |(cases h)
theorem QQD{md:Nat→List Md}{o:Oper}{f:Nat}{l:List X}{m:List Md}(hc:cOp P md o=some (.call f l m)):
  ∃c,o.op=.call c∧c.callee=.value (.func f)∧Q1 cX c.args.toList=some l:=by
 unfold cOp at hc
 split at hc
 case h_22 c hop=>
  refine⟨c,hop,?_⟩
  split at hc
  case h_7 g hcal=>
   simp only[Qm,LOp.call.injEq] at hc
   obtain⟨l',h1,rfl,rfl,rfl⟩:=hc
   exact⟨hcal,h1⟩
  all_goals (repeat' split at hc)<;>simp at hc
 case h_11=>exact absurd rfl ((QnN hc).1 _ _ _)
 all_goals (repeat' split at hc)<;>simp [QI] at hc
 all_goals (repeat' split at hc)<;>simp at hc
set_option maxHeartbeats 1000000 in
theorem QQE{md:Nat→List Md}{o:Oper}{g:X}{l:List X}(hc:cOp P md o=some (.callv g l)):
  ∃c x,o.op=.call c∧c.callee=.value x∧cX x=some g∧Q1 cX c.args.toList=some l:=by
 unfold cOp at hc
 split at hc
 case h_22 c hop=>
  split at hc
  case h_8 x _ hcal=>
   split at hc
   ·split at hc
    ·simp only[Qb,LOp.callv.injEq] at hc
     obtain⟨rfl,rfl⟩:=hc
     exact⟨c,x,hop,hcal,by assumption,by assumption⟩
    ·simp at hc
   ·cases hc
  all_goals (repeat' split at hc)<;>simp at hc
 case h_11=>exact absurd rfl ((QnN hc).2 _ _)
 all_goals (repeat' split at hc)<;>simp [QI] at hc
 all_goals (repeat' split at hc)<;>simp at hc
set_option maxHeartbeats 1000000 in
theorem QQF{md:Nat→List Md}{o:Oper}{g:Bool}{x:X}(hc:cOp P md o=some (.isnil g x)):
  ∃op t xo y gd e,o.op=.binOp op t xo y gd∧P.underlying t=some (.slice e)∧cX xo=some x∧cX y=some (.k (.nl 0))∧((op=.eql∧g=false)∨(op=.neq∧g=true)):=by
 unfold cOp at hc
 split at hc
 case h_11 op t xo y gd hop=>
  unfold Qbl at hc
  split at hc
  ·simp at hc
  ·repeat' split at hc
   all_goals simp at hc
  ·repeat' split at hc
   all_goals simp at hc
  ·rename_i e x' hu hx hy
   split at hc
   ·simp only[Qb,LOp.isnil.injEq] at hc
    obtain⟨rfl,rfl⟩:=hc
    exact⟨_,t,xo,y,gd,_,hop,hu,hx,hy,.inl ⟨rfl,rfl⟩⟩
   ·simp only[Qb,LOp.isnil.injEq] at hc
    obtain⟨rfl,rfl⟩:=hc
    exact⟨_,t,xo,y,gd,_,hop,hu,hx,hy,.inr ⟨rfl,rfl⟩⟩
   ·simp at hc
  ·simp at hc
 case h_22 c hop=>
  split at hc
  all_goals (repeat' split at hc)<;>simp at hc
  all_goals (repeat' split at hc)<;>simp at hc
 all_goals (repeat' split at hc)<;>simp [QI] at hc
 all_goals (repeat' split at hc)<;>simp at hc
set_option maxHeartbeats 1000000 in
theorem QQG{md:Nat→List Md}{o:Oper}{a x:X}(hc:cOp P md o=some (.stf a x)):
  ∃t ao xo,o.op=.store t ao xo∧cX ao=some a∧cX xo=some x∧XG P t=some 1:=by
 unfold cOp at hc
 split at hc
 case h_10 t ao xo hop=>
  split at hc
  case h_2=>cases hc
  rename_i n a' x' hz ha hx
  split at hc
  ·cases hc
  split at hc
  ·split at hc<;>simp at hc
  split at hc
  ·rename_i hn
   simp only[Qb,LOp.stf.injEq] at hc
   obtain⟨rfl,rfl⟩:=hc
   exact⟨t,ao,xo,hop,ha,hx,by rw[hz,hn.2]⟩
  ·cases hc
 case h_22 c hop=>
  split at hc
  all_goals (repeat' split at hc)<;>simp at hc
  all_goals (repeat' split at hc)<;>simp at hc
 case h_11=>unfold Qbl at hc;(repeat' split at hc)<;>simp at hc
 all_goals (repeat' split at hc)<;>simp [QI] at hc
 all_goals (repeat' split at hc)<;>simp at hc
theorem QQH(h:RH B κ hp F w){v:Value}{e:D}{hp':qHp}(hm:MR w (Im B κ hp w) κ d v)(hc:JQ hp d=some (e,hp')):RH B κ hp' F w∧Nxt B κ κ hp hp' w w∧DR w (Im B κ hp' w) e v []:=by
 have pure:(if X5 d=true then some (d,hp) else none)=some (e,hp')→RH B κ hp' F w∧Nxt B κ κ hp hp' w w∧DR w (Im B κ hp' w) e v []:=fun hc=>by
  split at hc
  ·rename_i ho
   simp only[Qb,Qe] at hc
   obtain⟨rfl,rfl⟩:=hc
   exact⟨h,Nxt.refl _ _ _ _,QfN hm ho⟩
  ·cases hc
 cases d
 case pt id off=>
  simp only[JQ] at hc
  split at hc
  case h_2=>cases hc
  rename_i cs hl
  split at hc
  case isFalse=>cases hc
  rename_i hcond
  simp only[Qb,Qe] at hc
  obtain⟨rfl,rfl⟩:=hc
  obtain⟨b,cur,ty,hk,hob,hg,h1,hms⟩:=h.box hl
  obtain⟨k1,k2⟩:=h.forget id
  refine⟨k1,k2,?_⟩
  simp only[MR,hk,Qb,KI.box.injEq] at hm
  obtain⟨b',rfl,rfl⟩:=hm
  simp only[DR]
  obtain⟨rfl,hall⟩:=hcond
  refine⟨trivial,b,0,cur.toList,rfl,⟨?_,(h.own b ⟨id,hob⟩).2,?_⟩,Mem.of_cells hg (fun j u hj=>by simpa using hj),Qng (hms.mono k2.keep (fun _ _ h=>h)) hall h1⟩
  ·rcases (h.own b ⟨id,hob⟩).1 with h|h
   ·exact .inr (.inl h)
   ·exact .inr (.inr h)
  ·rintro⟨id',e',k',g1,g2,g3,g4⟩
   rw[ZG] at g1
   split at g1
   ·cases g1
   ·rename_i hne
    exact hne (h.inj id' id b ⟨e',k',g1,g2,g3,g4⟩ hob)
 all_goals exact pure hc
theorem QnO:∀{ds:List D}{hp hp':qHp}{vs:List Value}{es:List D},RH B κ hp F w→MRs w (Im B κ hp w) κ ds vs→XS JQ hp ds=some (es,hp')→RH B κ hp' F w∧Nxt B κ κ hp hp' w w∧DRs w (Im B κ hp' w) es vs []
 |[],hp,hp',vs,es,h,hm,hc=>by
  simp only[XS,Qb,Qe] at hc
  obtain⟨rfl,rfl⟩:=hc
  simp only[MRs] at hm
  exact⟨h,Nxt.refl _ _ _ _,by simp [DRs,hm]⟩
 |d::ds,hp,hp',vs,es,h,hm,hc=>by
  simp only[XS] at hc
  split at hc
  case h_2=>cases hc
  rename_i e hp1 h1
  split at hc
  case h_2=>cases hc
  rename_i l hp2 h2
  simp only[Qb,Qe] at hc
  obtain⟨rfl,rfl⟩:=hc
  simp only[MRs] at hm
  obtain⟨v,vs',rfl,hd,hds⟩:=hm
  obtain⟨g1,g2,g3⟩:=QQH h hd h1
  obtain⟨g4,g5,g6⟩:=QnO g1 (hds.mono g2.keep (fun _ _ h=>h)) h2
  refine⟨g4,g2.trans g5,?_⟩
  simp only[DRs]
  exact⟨v,vs',[],[],rfl,rfl,g3.mono g5.keep _ _ _ (by simp),g6⟩
theorem Qf3{I:Nat→Prop}:∀{ds es:List D}{us vs:List Value},MRs w I κ ds us→MRs w I κ es vs→MRs w I κ (ds++es) (us++vs)
 |[],es,us,vs,h1,h2=>by simp only[MRs] at h1;subst h1;exact h2
 |d::ds,es,us,vs,h1,h2=>by
  simp only[MRs] at h1
  obtain⟨v,vs',rfl,hd,hds⟩:=h1
  simp only[List.cons_append,MRs]
  exact⟨v,_,rfl,hd,Qf3 hds h2⟩
theorem Qcj{a:Act}(hs:RS B κ hp w sl a.tmps){dst:Option Nat}(hd:∀t,dst=some t→t<B.N∧t∉B.fx){v:Value}(hm:MR w (Im B κ hp w) κ d v):
  RS B κ hp w (Xe dst d sl) (a.put dst v).tmps∧(a.put dst v).defers=a.defers:=by
 cases dst with
 |none=>exact⟨hs,rfl⟩
 |some t=>exact⟨hs.put (hd t rfl).1 (hd t rfl).2 hm,rfl⟩
theorem QQI{s:St}{a:Act}(h:RH B κ s.hp F w)(hs:RS B κ s.hp w s.sl a.tmps)(hF:∀k,k<64→F (n+k)){md:Nat→List Md}{o:Oper}{op:LOp}{g:Option (Nat×Bool)}(hc:cOp P md o=some op)
  (hd:∀t,o.dst=some t→t<B.N∧t∉B.fx) {K:St→Prop} (hk:Yc P n ⟨o.dst,op,g⟩ s K) {next:Act→World→Prop} {Q:Exit→Act→World→Prop}
  (hn:∀κ' s' a' w',K s'→RH B κ' s'.hp (Fr F n) w'→RS B κ' s'.hp w' s'.sl a'.tmps→Nxt B κ κ' s.hp s'.hp w w'→a'.defers=a.defers→next a' w'):o.wp P a w next Q:=by
 obtain⟨sl,hp,nx⟩:=s
 obtain⟨tm,df⟩:=a
 have eff_case:(∀f l m,op≠.call f l m)→(∀x l,op≠.callv x l)→(∀x l,op≠.callm x l)→(∀g x,op≠.isnil g x)→(∀a x,op≠.stf a x)→o.wp P ⟨tm,df⟩ w next Q:=by
  intro h1 h2 h4 h3 h5
  have hk':kon (eff n sl hp op) fun p=>K ⟨Xe o.dst p.1 sl,p.2,nx⟩:=by
   unfold Yc at hk
   cases op<;>first|exact hk|exact absurd rfl (h1 _ _ _)|exact absurd rfl (h2 _ _)|exact absurd rfl (h4 _ _)|exact absurd rfl (h3 _ _)|exact absurd rfl (h5 _ _)
  unfold kon at hk'
  split at hk'
  case h_2=>exact hk'.elim
  rename_i p he
  obtain⟨κ',v,w',hr,hR,hN,hm⟩:=QQn (df:=df) h hs hF hc he
  have hgo:next (Act.put ⟨tm,df⟩ o.dst v) w':=by
   obtain⟨g1,g2⟩:=Qcj (a:=⟨tm,df⟩) (hs.next hN) hd hm
   exact hn κ' _ _ w' hk' hR g1 hN g2
  unfold Oper.wp
  rcases hr with hr|⟨hr,rfl⟩
  ·rw[hr];exact hgo
  ·rw[hr];exact hgo
 have call_case:∀(f:Nat)(ds:List D)(vs:List Value)(md:List Md),(execOp (Act.eval ⟨tm,df⟩) o).run P w=(callFunc f vs.toArray).run P w→MRs w (Im B κ hp w) κ ds vs→
   (ZC P n hp f ds md fun p=>K ⟨Xe o.dst p.1 sl,p.2,nx⟩)→o.wp P ⟨tm,df⟩ w next Q:=by
  intro f ds vs md hrun hvs hcall
  obtain⟨h1,h2⟩:=QQC h hF hvs hcall
  unfold Oper.wp
  rw[hrun,h1]
  refine Calls.mono h2 ?_
  rintro e w' ⟨v,d,hp',κ',rfl,hK,hR,hN,hm⟩
  obtain⟨g1,g2⟩:=Qcj (a:=⟨tm,df⟩) (hs.next hN) hd hm
  exact hn κ' _ _ w' hK hR g1 hN g2
 cases op with
 |call f l md'=>
  obtain⟨c,hop,hcal,hl⟩:=QQD hc
  simp only[Yc] at hk
  unfold kon at hk
  split at hk
  case h_2=>exact hk.elim
  rename_i ds hds
  refine call_case f ds (c.args.toList.map (Act.eval ⟨tm,df⟩)) md' ?_ (Qbq hs hl hds) hk
  have:(List.map (Act.eval ⟨tm,df⟩) c.args.toList).toArray=c.args.map (Act.eval ⟨tm,df⟩):=by apply Array.toList_inj.1;simp
  rw[this]
  have hf:Act.eval ⟨tm,df⟩ (.func f)=.func (.func f) #[] #[]:=rfl
  unfold execOp
  simp only[hop,resolve,hcal,hf,Deferred.ofValue,Sem.run_bind,Sem.run_pure,Result.andThen_ok,invoke,Array.append_empty,Array.empty_append]
 |callv x l=>
  obtain⟨c,xo,hop,hcal,hx,hl⟩:=QQE hc
  simp only[Yc] at hk
  unfold kon at hk
  split at hk
  case h_2=>exact hk.elim
  rename_i q hq
  split at hk
  case h_2=>exact hk.elim
  rename_i ds hds
  cases hx':ev sl x with
  |none=>rw[hx'] at hq;cases hq
  |some e=>
   rw[hx'] at hq
   simp only[Option.bind_some] at hq
   cases e<;>simp only[YH,Qb,reduceCtorEq] at hq
   rename_i f caps
   subst hq
   have hm:=XD (df:=df) hs hx hx'
   simp only[MR] at hm
   obtain⟨us,hu,hus⟩:=hm
   refine call_case f (ds++caps) (c.args.toList.map (Act.eval ⟨tm,df⟩)++us.toList) [] ?_ (Qf3 (Qbq hs hl hds) hus) hk
   have:(List.map (Act.eval ⟨tm,df⟩) c.args.toList++us.toList).toArray=c.args.map (Act.eval ⟨tm,df⟩)++us:=by simp
   rw[this]
   unfold execOp
   simp only[hop,resolve,hcal,hu,Deferred.ofValue,Sem.run_bind,Sem.run_pure,Result.andThen_ok,invoke,Array.empty_append]
 |callm x l=>exact hk.elim
 |isnil g x=>
  obtain⟨bop,t,xo,y,gd,e,hop,hu,hx,hy,hg⟩:=QQF hc
  simp only[Yc] at hk
  unfold kon at hk
  split at hk
  case h_2=>exact hk.elim
  rename_i q hq
  cases hx':ev sl x with
  |none=>rw[hx'] at hq;cases hq
  |some d=>
  rw[hx',Option.bind_some] at hq
  have hm:=XD (df:=df) hs hx hx'
  have hy':Act.eval ⟨tm,df⟩ y=.slice none 0 0:=by
   have:=XD (df:=df) hs hy (d:=.nl 0) rfl
   simpa only[MR] using this
  have hval:∃a n c,Act.eval ⟨tm,df⟩ xo=.slice a n c∧(a.isNone=true→q.1)∧(a.isNone=false→q.2):=by
   cases d<;>simp only[Qbo,reduceCtorEq,Qb] at hq
   case nl=>subst hq;simp only[MR] at hm;exact⟨_,_,_,hm,by simp,by simp⟩
   case lst sz xs=>
    subst hq
    simp only[MR,DR] at hm
    rcases hm.2.2 with⟨⟨_,h1⟩,h2⟩|⟨b,off,cap,us,h1,_⟩
    ·exact⟨_,_,_,h1,fun _=>h2,fun _=>trivial⟩
    ·exact⟨_,_,_,h1,by simp,fun _=>trivial⟩
   case sl id lo len=>
    subst hq
    simp only[MR] at hm
    rcases hm with⟨sz,_,h1,_,h2⟩|⟨b,sz,tot,off,cap,_,h1,_⟩
    ·exact⟨_,_,_,h1,fun _=>h2,fun _=>trivial⟩
    ·exact⟨_,_,_,h1,by simp,fun _=>trivial⟩
  obtain⟨a,m,c,hv,hq1,hq2⟩:=hval
  have hrun:(execOp (Act.eval ⟨tm,df⟩) o).run P w=.ok (.value (.bool (if g then !a.isNone else a.isNone))) w:=by
   rcases hg with⟨rfl,rfl⟩|⟨rfl,rfl⟩
   ·have:=Lib.run_eql_slice_nil (P:=P) w t e a m c 0 0 hu
    simp [execOp,hop,hv,hy',this,eqGuard]
   ·have:=run_neq_slice_nil_any (P:=P) w t e a m c 0 0 hu
    simp [execOp,hop,hv,hy',this,eqGuard]
  unfold Oper.wp
  rw[hrun]
  obtain⟨g1,g2⟩:=Qcj (a:=⟨tm,df⟩) hs hd (d:=.bool (if g then !a.isNone else a.isNone)) (v:=.bool (if g then !a.isNone else a.isNone)) (by simp only[MR])
  refine hn κ ⟨Xe o.dst (.bool (if g then !a.isNone else a.isNone)) sl,hp,nx⟩ _ w ?_ (h.same Fr.sub) g1 (Nxt.refl _ _ _ _) g2
  cases ha:a.isNone
  ·have:=hk.2 (hq2 ha)
   cases g<;>simpa [ha] using this
  ·have:=hk.1 (hq1 ha)
   cases g<;>simpa [ha] using this
 |stf a x=>
  obtain⟨t,ao,xo,hop,ha,hx,hz⟩:=QQG hc
  simp only[Yc] at hk
  unfold kon at hk
  split at hk
  case h_2=>exact hk.elim
  rename_i hp2 hq
  unfold Qdl at hq
  split at hq
  case h_2=>cases hq
  rename_i id off f cs hda hdx
  split at hq
  case h_2=>cases hq
  rename_i es hp1 hex
  split at hq
  case h_2=>cases hq
  rename_i l hl
  split at hq
  case isFalse=>cases hq
  rename_i hlen
  simp only[Qb] at hq
  subst hq
  have hva:=XD (df:=df) hs ha hda
  have hvx:=XD (df:=df) hs hx hdx
  simp only[MR] at hvx
  obtain⟨vs,hvx,hms0⟩:=hvx
  obtain⟨k1,k2,k3⟩:=QnO h hms0 hex
  obtain⟨b,cur,ty,hkb,hob,hg,h1,hms⟩:=k1.box hl
  simp only[MR,hkb,Qb,KI.box.injEq] at hva
  obtain⟨b',rfl,hva⟩:=hva
  have hcl:=hms.length
  have hce:(Act.eval ⟨tm,df⟩ xo).cells=#[Act.eval ⟨tm,df⟩ xo]:=by rw[hvx];rfl
  have hsz:(Act.eval ⟨tm,df⟩ xo).cells.size=1:=by rw[hce];rfl
  have g2:∀u∈(Act.eval ⟨tm,df⟩ xo).cells.toList,u.oneCell'=true:=by rw[hce];intro u hu;simp at hu;subst hu;rw[hvx];rfl
  have hr:=QfV (P:=P) hz hsz g2 hg (off:=off) (by simp at hcl;omega)
  have hst:=Qbt w b (cur.toList.take off++(Act.eval ⟨tm,df⟩ xo).cells.toList++cur.toList.drop (off+1)).toArray hg (by simp only[List.size_toArray,Ql,Qj,List.length_drop,Array.length_toList,hsz];simp at hcl;omega)
  obtain⟨q1,q2⟩:=k1.change (F':=Fr F n) hob hst Fr.sub (ent:=.box (XY l off [.clo f es])) (fun keep=>by
   simp only[ER]
   refine⟨b,_,ty,hkb,setRow_heap w b cur _ ty _ hg,?_,?_⟩
   ·intro u hu
    simp only[Qg] at hu
    rcases hu with (hu|hu)|hu
    ·exact h1 u (QF hu)
    ·exact g2 u hu
    ·exact h1 u (QN hu)
   ·have hsp:XY l off [.clo f es]=l.take off++[.clo f es]++l.drop (off+1):=rfl
    have hmid:MRs w (Im B κ hp1 w) κ [.clo f es] (Act.eval ⟨tm,df⟩ xo).cells.toList:=by
     rw[hce]
     simp only[MRs]
     exact⟨_,[],rfl,by rw[hvx];exact MR.of_DR _ _ (by simp only[DR];exact⟨vs,rfl,k3⟩),rfl⟩
    have hh:=MRs.append.2 ⟨_,_,rfl,MRs.append.2 ⟨_,_,rfl,((hms.take off).1).mono keep (fun _ _ h=>h),hmid.mono keep (fun _ _ h=>h)⟩,((hms.take (off+1)).2).mono keep (fun _ _ h=>h)⟩
    rw[←hsp] at hh
    exact hh)
  obtain⟨p1,p2⟩:=Qcj (a:=⟨tm,df⟩) (hs.next (k2.trans q2)) hd (d:=.undef) (v:=undef) (by simp only[MR];exact Qdo)
  unfold Oper.wp
  have hrun:(execOp (Act.eval ⟨tm,df⟩) o).run P w=.ok .skip (w.setRow b (cur.toList.take off++(Act.eval ⟨tm,df⟩ xo).cells.toList++cur.toList.drop (off+1)).toArray):=by
   simp [execOp,hop,Instr.storeAt,Instr.sureAddr,hva,hr]
  rw[hrun]
  exact hn κ ⟨Xe o.dst .undef sl,_,nx⟩ _ _ hk q1 p1 (k2.trans q2) p2
 |_=>exact eff_case (fun _ _ _=>by simp) (fun _ _=>by simp) (fun _ _=>by simp) (fun _ _=>by simp) (fun _ _=>by simp)
theorem QnP{s:St}{a:Act}(h:RH B κ s.hp F w)(hs:RS B κ s.hp w s.sl a.tmps)(hF:∀k,k<64→F (n+k)){H:Hints}(hfx:B.fx=H.fx){ops:Array Oper}{o:Oper}{li:LI}(hc:cI P H B.N ops o=some li)
  {K:St→Prop} (hk:YP P n li s K) {next:Act→World→Prop} {Q:Exit→Act→World→Prop}
  (hn:∀κ' s' a' w',K s'→RH B κ' s'.hp (Fr F n) w'→RS B κ' s'.hp w' s'.sl a'.tmps→Nxt B κ κ' s.hp s'.hp w w'→a'.defers=a.defers→next a' w'):
  if Region.wanted o (yielded ops a.tmps)=true then o.wp P a w next Q else next (a.put o.dst undef) w:=by
 unfold cI at hc
 split at hc
 case h_2=>cases hc
 rename_i g hg
 generalize hopd:(cOp P H.md o).getD .bad=op at hc
 have hli:li=⟨o.dst,op,g⟩∧∀t,o.dst=some t→t<B.N∧t∉B.fx:=by
  split at hc
  ·rename_i t ht
   split at hc
   ·rename_i hlt
    simp only[Qb] at hc
    refine⟨by rw[←hc,ht],fun t' ht'=>?_⟩
    rw[ht,Qb] at ht'
    subst ht'
    exact⟨hlt.1,by rw[hfx];exact hlt.2⟩
   ·cases hc
  ·rename_i ht
   simp only[Qb] at hc
   exact⟨by rw[←hc,ht],fun t' ht'=>by rw[ht] at ht';cases ht'⟩
 obtain⟨rfl,hd⟩:=hli
 have skip:K ⟨Xe o.dst .undef s.sl,s.hp,s.nx⟩→next (a.put o.dst undef) w:=by
  intro hK
  obtain⟨g1,g2⟩:=Qcj (a:=a) hs hd (d:=.undef) (v:=undef) (by simp only[MR];exact Qdo)
  exact hn κ _ _ w hK (h.same Fr.sub) g1 (Nxt.refl _ _ _ _) g2
 have act:Yc P n ⟨o.dst,op,g⟩ s K→o.wp P a w next Q:=fun hK=>by
  cases hop:cOp P H.md o with
  |some op'=>
   rw[hop,Option.getD_some] at hopd
   subst hopd
   exact QQI h hs hF hop hd hK hn
  |none=>
   rw[hop,Option.getD_none] at hopd
   subst hopd
   exact absurd hK (by simp [Yc,eff,kon])
 cases hgo:o.guard with
 |none=>
  rw[hgo] at hg
  simp only[QfH,Qb] at hg
  subst hg
  have:Region.wanted o (yielded ops a.tmps)=true:=by simp [Region.wanted,hgo]
  rw[if_pos this]
  exact act hk
 |some jw=>
  obtain⟨j,want⟩:=jw
  rw[hgo] at hg
  simp only[QfH] at hg
  split at hg
  case h_2=>cases hg
  rename_i t ht
  simp only[Qb] at hg
  subst hg
  have fin:∀{p q r:Prop},Zo (lk s.sl t) p q r→(∃c:Bool,yielded ops a.tmps j=some c∧(c=true→p)∧(c=false→q))∨(yielded ops a.tmps j=none∧r):=by
   intro p q r hb
   unfold Zo at hb
   split at hb
   ·rename_i c hlk
    obtain⟨v,hv,hm⟩:=hs.sl t _ hlk
    simp only[MR] at hm
    subst hm
    exact .inl ⟨c,by simp [yielded,ht,hv],hb.1,hb.2⟩
   ·rename_i hlk
    obtain⟨v,hv,hm⟩:=hs.sl t _ hlk
    simp only[MR] at hm
    refine .inr ⟨?_,hb⟩
    simp only[yielded,ht,Option.bind_some,hv]
    split
    ·rename_i b hb;exact absurd (Option.some.inj hb) (hm b)
    ·rfl
   ·exact hb.elim
  cases want with
  |true=>
   rcases fin hk with⟨c,hc,h1,h2⟩|⟨hc,h0⟩
   ·have hw:Region.wanted o (yielded ops a.tmps)=c:=by simp [Region.wanted,hgo,hc]
    rw[hw]
    cases c
    ·rw[if_neg (by simp)];exact skip (h2 rfl)
    ·rw[if_pos rfl];exact act (h1 rfl)
   ·have hw:Region.wanted o (yielded ops a.tmps)=false:=by simp [Region.wanted,hgo,hc]
    rw[hw,if_neg (by simp)];exact skip h0
  |false=>
   rcases fin hk with⟨c,hc,h1,h2⟩|⟨hc,h0⟩
   ·have hw:Region.wanted o (yielded ops a.tmps)=!c:=by simp [Region.wanted,hgo,hc]
    rw[hw]
    cases c
    ·rw[if_pos (by simp)];exact act (h2 rfl)
    ·rw[if_neg (by simp)];exact skip (h1 rfl)
   ·have hw:Region.wanted o (yielded ops a.tmps)=false:=by simp [Region.wanted,hgo,hc]
    rw[hw,if_neg (by simp)];exact skip h0
theorem QnQ{H:Hints}(hfx:B.fx=H.fx){ops:Array Oper}{Q:Exit→Act→World→Prop}:∀{os:List Oper}{l:List LI}{n:Nat}{κ:Nat→Option KI}{s:St}{a:Act}{w:World}{K:St→Prop},Q1 (cI P H B.N ops) os=some l→
  RH B κ s.hp (fun id=>n≤id) w→RS B κ s.hp w s.sl a.tmps→Qat P l n s K→
  (∀κ' s' a' w',K s'→RH B κ' s'.hp (fun id=>s'.nx≤id) w'→RS B κ' s'.hp w' s'.sl a'.tmps→Nxt B κ κ' s.hp s'.hp w w'→a'.defers=a.defers→Q .normal a' w')→wpList P ops Q os a w
 |[],l,n,κ,s,a,w,K,hc,h,hs,hk,hn=>by
  simp only[Q1,Qb] at hc
  subst hc
  exact hn κ ⟨s.sl,s.hp,n⟩ a w hk h hs (Nxt.refl _ _ _ _) rfl
 |o::os,l,n,κ,s,a,w,K,hc,h,hs,hk,hn=>by
  simp only[Q1] at hc
  split at hc
  case h_2=>cases hc
  rename_i li l' hli hl'
  simp only[Qb] at hc
  subst hc
  have:=QnP (Q:=Q) (next:=wpList P ops Q os) h hs (fun k _=>Nat.le_add_right _ _) hfx hli hk (fun κ1 s1 a1 w1 hK hR hS hN hD=>
   QnQ hfx hl' (hR.same (fun id (hid:n+64≤id)=>⟨by omega,.inr hid⟩)) hS hK (fun κ2 s2 a2 w2 hK2 hR2 hS2 hN2 hD2=>hn κ2 s2 a2 w2 hK2 hR2 hS2 (hN.trans hN2) (hD2.trans hD)))
  unfold wpList
  split at this
  ·rename_i hw;rw[if_pos hw];exact .inl this
  ·rename_i hw;rw[if_neg hw];exact this
end
set_option linter.unusedVariables false
set_option linter.unusedSimpArgs false
set_option linter.unnecessarySimpa false
structure Loc(S:Nat→Prop)(T:qHp→qHp):Prop where
 out (l:qHp) (id:Nat):¬S id→lk (T l) id=lk l id
 same (l m:qHp):(∀id,S id→lk m id=lk l id)→∀id,S id→lk (T m) id=lk (T l) id
section
variable {S:Nat→Prop} {T U:qHp→qHp}
theorem Loc.id:Loc S (fun l=>l):=⟨fun _ _ _=>rfl,fun _ _ h=>h⟩
theorem Loc.comp(h:Loc S T)(k:Loc S U):Loc S (fun l=>T (U l)):=
 ⟨fun hp id hn=>(h.out _ id hn).trans (k.out _ id hn),fun hp hp2 he=>h.same _ _ (k.same _ _ he)⟩
theorem Loc.up{i:Nat}{e:Ent}(hi:S i):Loc S (fun l=>up l i e):=
 ⟨fun hp id hn=>by rw[Yw,if_neg (fun e:id=i=>hn (e▸hi))],fun hp hp2 he id hs=>by rw[Yw,Yw];split;rfl;exact he id hs⟩
theorem Loc.rm{i:Nat}(hi:S i):Loc S (fun l=>rm l i):=
 ⟨fun hp id hn=>by rw[ZG,if_neg (fun e:id=i=>hn (e▸hi))],fun hp hp2 he id hs=>by rw[ZG,ZG];split;rfl;exact he id hs⟩
theorem Loc.freeze{l:List Nat}(hl:∀id∈l,S id):Loc S (Xd l):=
 ⟨fun hp id hn=>by
  rw[Qf0,if_neg' (fun hm=>hn (hl id hm))],fun hp hp2 he id hs=>by rw[Qf0,Qf0,he id hs]⟩
where
 if_neg' {l:List Nat} {id:Nat} {o:Option Ent} (h:id∉l):(o.map fun e=>if id∈l then e.frozen else e)=o:=by
  cases o<;>simp [h]
theorem QQJ{α:Type}{E:List (Nat×α)}{id:Nat}(h:∀p∈E,p.1≠id):lk E id=none:=by
 cases hE:lk E id with
 |none=>rfl
 |some a=>exact absurd rfl (h _ (J9 hE))
theorem Loc.app{E:qHp}(hE:∀p∈E,S p.1):Loc S (fun l=>E++l):=
 ⟨fun hp id hn=>by rw[J8,QQJ (fun p hp (e:p.1=id)=>hn (e▸hE p hp))];rfl,fun hp hp2 he id hs=>by rw[J8,J8,he id hs]⟩
end
theorem Qaa{α β:Type}{f g:α→Option β}:∀{l:List α},(∀a∈l,f a=g a)→Q1 f l=Q1 g l
 |[],_=>rfl
 |a::l,h=>by simp only[Q1,h a (by simp),Qaa (l:=l) (fun b hb=>h b (Qs _ hb))]
section
variable {hp hp2 hp':qHp} {sl sl2:qSl} {d:D} {n:Nat}
theorem Qf4(h:∀id∈d.ids0,lk hp2 id=lk hp id):Xa hp2 d=Xa hp d:=by
 cases d<;>simp only[Xa]
 rw[h _ (by simp [D.ids0])]
theorem Qf5{cs:List D}(h:∀id∈cs.flatMap D.ids0,lk hp2 id=lk hp id):Q1 (Xa hp2) cs=Q1 (Xa hp) cs:=
 Qaa fun c hc=>Qf4 fun id hid=>h id (Qp.2 ⟨c,hc,hid⟩)
theorem QnR(h:∀id∈d.ids,lk hp2 id=lk hp id):pur hp2 d=pur hp d:=by
 cases d<;>simp only[pur]
 case agg cs=>rw[Qf5 (by simpa only[D.ids] using h)]
 all_goals exact Qf4 (by simpa only[D.ids] using h)
theorem QnS(h:∀id∈d.rch1 hp,lk hp2 id=lk hp id):Xv hp2 d=Xv hp d:=by
 cases d<;>simp only[Xv]
 case agg cs=>rw[Qf5 (by simpa only[D.rch1] using h)]
 case pt id off=>
  simp only[D.rch1] at h
  have h0:=h id (by simp)
  rw[h0]
  split
  ·rename_i cs hcs
   rw[Qf5 (fun i hi=>h i (by rw[hcs];exact Qs _ hi))]
  ·rfl
 all_goals exact Qf4 (by simpa only[D.rch1] using h)
theorem QnT(h:∀id∈d.rch hp,lk hp2 id=lk hp id):Xz hp2 d=Xz hp d:=by
 cases d<;>simp only[Xz]
 case clo f cs=>
  rw[Qaa fun c hc=>QnS fun id hid=>h id (Qp.2 ⟨c,hc,hid⟩)]
 all_goals exact QnS (by simpa only[D.rch] using h)
theorem Qf6{sz:Nat}(h:∀id∈d.hd,lk hp2 id=lk hp id):rdS hp2 sz d=rdS hp sz d:=by
 cases d<;>simp only[rdS]
 rw[h _ (by simp [D.hd])]
theorem QnU{id:Nat}(h:lk hp2 id=lk hp id):entSz hp2 id=entSz hp id:=by simp only[entSz,h]
theorem Qf7{e:D}(h:Xa hp d=some e):∀id∈d.ids0,lk hp id≠none:=by
 cases d<;>simp only[D.ids0,List.not_mem_nil,false_implies,implies_true,Qn,forall_eq]
 intro hn
 simp [Xa,hn] at h
theorem QdA{α β:Type}{f:α→Option β}:∀{l:List α}{m:List β},Q1 f l=some m→∀a∈l,∃b,f a=some b
 |[],_,_,a,ha=>by simp at ha
 |x::l,m,h,a,ha=>by
  simp only[Q1] at h
  split at h
  case h_2=>cases h
  rename_i b m' hb hm
  rcases Qh.1 ha with rfl|ha
  ·exact⟨b,hb⟩
  ·exact QdA hm a ha
theorem Qf8{cs es:List D}(h:Q1 (Xa hp) cs=some es):∀id∈cs.flatMap D.ids0,lk hp id≠none:=by
 intro id hid
 obtain⟨c,hc,hi⟩:=Qp.1 hid
 obtain⟨e,he⟩:=QdA h c hc
 exact Qf7 he id hi
theorem QnV{e:D}(h:pur hp d=some e):∀id∈d.ids,lk hp id≠none:=by
 cases d
 case agg cs=>
  simp only[pur,Qm] at h
  obtain⟨es,h,_⟩:=h
  exact Qf8 h
 all_goals exact Qf7 (by simpa only[pur] using h)
theorem QnW{e:D}(h:Xv hp d=some e):∀id∈d.rch1 hp,lk hp id≠none:=by
 cases d
 case agg cs=>
  simp only[Xv,Qm] at h
  obtain⟨es,h,_⟩:=h
  exact Qf8 h
 case pt i off=>
  simp only[Xv] at h
  split at h
  ·rename_i cs hcs
   simp only[Qm] at h
   obtain⟨es,h,_⟩:=h
   intro id hid
   simp only[D.rch1,hcs,Qh] at hid
   rcases hid with rfl|hid
   ·simp [hcs]
   ·exact Qf8 h id hid
  ·cases h
 case ref cs=>intro id hid;simp [D.rch1,D.ids0] at hid
 all_goals exact Qf7 (by simpa only[Xv] using h)
theorem QQK{e:D}(h:Xz hp d=some e):∀id∈d.rch hp,lk hp id≠none:=by
 cases d
 case clo f cs=>
  simp only[Xz,Qm] at h
  obtain⟨es,h,_⟩:=h
  intro id hid
  obtain⟨c,hc,hi⟩:=Qp.1 hid
  obtain⟨e,he⟩:=QdA h c hc
  exact QnW he id hi
 all_goals exact QnW (by simpa only[Xz] using h)
theorem Qf9{sz:Nat}{l:List D}(h:rdS hp sz d=some l):∀id∈d.hd,lk hp id≠none:=by
 cases d<;>simp only[D.hd,List.not_mem_nil,false_implies,implies_true,Qn,forall_eq]
 ·intro hn;simp [rdS,hn] at h
 ·simp [rdS] at h
 ·simp [rdS] at h
theorem QnX{id s:Nat}(h:entSz hp id=some s):lk hp id≠none:=by
 intro hn;simp [entSz,hn] at h
theorem XJ{x:X}(h:ev sl x=some d):evL sl x=d:=by simp [evL,h]
theorem QnY{sz:Nat}:∀{ps:List (Nat×X)}{es:List D},(∀id∈ps.flatMap fun p=>(evL sl p.2).ids,lk hp2 id=lk hp id)→Yh sl hp2 sz ps es=Yh sl hp sz ps es
 |[],_,_=>rfl
 |(i,x)::ps,es,h=>by
  simp only[Yh]
  split
  ·rename_i d hd
   rw[QnR (fun id hid=>h id (by simp only[List.flatMap_cons,Qg,XJ hd];exact .inl hid))]
   split
   ·split
    ·rw[QnY (fun id hid=>h id (by simp only[List.flatMap_cons,Qg];exact .inr hid))]
    ·rfl
   ·rfl
  ·rfl
theorem QnZ{sz:Nat}:∀{ps:List (Nat×X)}{es l:List D}{f:List Nat},Yh sl hp sz ps es=some (l,f)→
  f=(ps.flatMap fun p=>(evL sl p.2).ids)∧∀id∈ps.flatMap fun p=>(evL sl p.2).ids,lk hp id≠none
 |[],es,l,f,h=>by
  simp only[Yh,Qb,Qe] at h
  simp [←h.2]
 |(i,x)::ps,es,l,f,h=>by
  simp only[Yh] at h
  split at h
  case h_2=>cases h
  rename_i d hd
  split at h
  case h_2=>cases h
  rename_i e he
  split at h
  case isFalse=>cases h
  simp only[Qm] at h
  obtain⟨⟨l',f'⟩,h,hh⟩:=h
  simp only[Qe] at hh
  obtain⟨h1,h2⟩:=QnZ h
  rw[List.flatMap_cons,XJ hd,←hh.2,h1]
  refine⟨rfl,fun id hid=>?_⟩
  rcases Qg.1 hid with hid|hid
  ·exact QnV he id hid
  ·exact h2 id hid
theorem QQL{op:LOp}(hg:∀hp,eff n sl hp op=(eff n sl [] op).map fun p=>(p.1,hp))(hr:rdI sl hp op=[])(he:eff n sl hp op=some (d,hp')):
  ∃T,hp'=T hp∧Loc (fun id=>id∈muI sl hp op∨(op.ck=true∧n≤id∧id<n+64)) T∧
  (∀id∈rdI sl hp op,lk hp id≠none)∧∀hp2,(∀id∈rdI sl hp op,lk hp2 id=lk hp id)→eff n sl hp2 op=some (d,T hp2):=by
 rw[hg,Qm] at he
 obtain⟨p,hp0,hh⟩:=he
 simp only[Qe] at hh
 obtain⟨rfl,rfl⟩:=hh
 exact⟨fun l=>l,rfl,Loc.id,by simp [hr],fun hp2 _=>by rw[hg,hp0];rfl⟩
theorem QdB{op:LOp}{g:Option (D×Ent)}(hck:op.ck=true)(hg:∀hp,eff n sl hp op=g.map fun p=>(p.1,up hp n p.2))(hr:rdI sl hp op=[])(he:eff n sl hp op=some (d,hp')):
  ∃T,hp'=T hp∧Loc (fun id=>id∈muI sl hp op∨(op.ck=true∧n≤id∧id<n+64)) T∧
  (∀id∈rdI sl hp op,lk hp id≠none)∧∀hp2,(∀id∈rdI sl hp op,lk hp2 id=lk hp id)→eff n sl hp2 op=some (d,T hp2):=by
 rw[hg,Qm] at he
 obtain⟨p,hp0,hh⟩:=he
 simp only[Qe] at hh
 obtain⟨rfl,rfl⟩:=hh
 exact⟨fun l=>up l n p.2,rfl,Loc.up (.inr ⟨hck,by omega⟩),by simp [hr],fun hp2 _=>by rw[hg,hp0];rfl⟩
theorem JT{op:LOp}(hp0:hp'=hp)(hp1:∀id∈rdI sl hp op,lk hp id≠none)(hp2:∀hp2,(∀id∈rdI sl hp op,lk hp2 id=lk hp id)→eff n sl hp2 op=some (d,hp2)):
  ∃T,hp'=T hp∧Loc (fun id=>id∈muI sl hp op∨(op.ck=true∧n≤id∧id<n+64)) T∧
  (∀id∈rdI sl hp op,lk hp id≠none)∧∀hp2,(∀id∈rdI sl hp op,lk hp2 id=lk hp id)→eff n sl hp2 op=some (d,T hp2):=
 ⟨fun l=>l,hp0,Loc.id,hp1,hp2⟩
set_option maxHeartbeats 2000000 in
theorem QQM{op:LOp}(he:eff n sl hp op=some (d,hp')):∃T,hp'=T hp∧Loc (fun id=>id∈muI sl hp op∨(op.ck=true∧n≤id∧id<n+64)) T∧
  (∀id∈rdI sl hp op,lk hp id≠none)∧∀hp2,(∀id∈rdI sl hp op,lk hp2 id=lk hp id)→eff n sl hp2 op=some (d,T hp2):=by
 have fr:n≤n∧n<n+64:=by omega
 cases op
 case alloc z=>exact QdB rfl (g:=some (.pt n 0,.box z)) (fun _=>rfl) rfl he
 case bx x=>exact QdB rfl (g:=((ev sl x).bind Yb).map fun cs=>(.pt n 0,.box cs)) (fun hp=>by simp only[eff,Option.map_map];rfl) rfl he
 case makeSl s b z x=>
  refine QdB rfl (g:=match (ev sl x).bind asI with|some m=>if 0≤m∧YY m.toNat b then some (.sl n 0 m.toNat,.arr s (List.replicate m.toNat z)) else none|none=>none) (fun hp=>?_) rfl he
  cases h:(ev sl x).bind asI with
  |none=>simp [eff,h]
  |some m=>by_cases hc:0≤m∧YY m.toNat b=true<;>simp [eff,h,hc]
 case load ag m x=>
  simp only[eff] at he
  split at he
  ·rename_i id off hx
   split at he
   ·rename_i cs hl
    simp only[Qm,Qe] at he
    obtain⟨d',hd,rfl,rfl⟩:=he
    refine JT rfl ?_ fun hp2 h=>?_
    ·simp [rdI,XJ hx,D.hd,hl]
    ·simp [rdI,XJ hx,D.hd] at h
     simp [eff,hx,h,hl,hd]
   ·cases he
  ·rename_i cs hx
   simp only[Qm,Qe] at he
   obtain⟨d',hd,rfl,rfl⟩:=he
   refine JT rfl ?_ fun hp2 h=>?_
   ·simp [rdI,XJ hx,D.hd]
   ·simp [eff,hx,hd]
  ·rename_i id i off hx
   split at he
   ·rename_i sz xs hl
    split at he
    ·rename_i e hxe
     simp only[Qm,Qe] at he
     obtain⟨d',hd,rfl,rfl⟩:=he
     refine JT rfl ?_ fun hp2 h=>?_
     ·simp [rdI,XJ hx,D.hd,hl]
     ·simp [rdI,XJ hx,D.hd] at h
      simp [eff,hx,h,hl,hxe,hd]
    ·cases he
   ·rename_i sz xs hl
    split at he
    ·rename_i e hxe
     simp only[Qm,Qe] at he
     obtain⟨d',hd,rfl,rfl⟩:=he
     refine JT rfl ?_ fun hp2 h=>?_
     ·simp [rdI,XJ hx,D.hd,hl]
     ·simp [rdI,XJ hx,D.hd] at h
      simp [eff,hx,h,hl,hxe,hd]
    ·cases he
   ·cases he
  ·cases he
 case slc s x lo hi=>
  simp only[eff] at he
  split at he
  ·rename_i id lo0 len l hx hlo
   split at he
   ·rename_i h hhi
    split at he
    ·rename_i hc
     simp only[Qb,Qe] at he
     obtain⟨rfl,rfl⟩:=he
     have hp0:lk hp id≠none:=QnX hc.2.2.2
     refine JT rfl ?_ fun hp2 hh=>?_
     ·simp [rdI,XJ hx,D.hd,hp0]
     ·simp [rdI,XJ hx,D.hd] at hh
      simp only[eff,hx,hlo,hhi]
      rw[if_pos ⟨hc.1,hc.2.1,hc.2.2.1,by rw[QnU hh];exact hc.2.2.2⟩]
    ·cases he
   ·cases he
  ·rename_i s' xs l hx hlo
   split at he
   ·rename_i h hhi
    split at he
    ·rename_i hc
     simp only[Qb,Qe] at he
     obtain⟨rfl,rfl⟩:=he
     refine JT rfl ?_ fun hp2 hh=>?_
     ·simp [rdI,XJ hx,D.hd]
     ·simp only[eff,hx,hlo,hhi]
      rw[if_pos hc]
    ·cases he
   ·cases he
  ·rename_i s' l hx hlo
   split at he
   ·rename_i h hhi
    split at he
    ·rename_i hc
     simp only[Qb,Qe] at he
     obtain⟨rfl,rfl⟩:=he
     refine JT rfl ?_ fun hp2 hh=>?_
     ·simp [rdI,XJ hx,D.hd]
     ·simp only[eff,hx,hlo,hhi]
      rw[if_pos hc]
    ·cases he
   ·cases he
  ·cases he
 case bad=>simp [eff] at he
 case mkn=>simp [eff] at he
 case tk=>simp [eff] at he
 case pu=>simp [eff] at he
 case clr s x=>
  simp only[eff] at he
  split at he
  ·rename_i sz' hx
   simp only[Qb,Qe] at he
   obtain⟨rfl,rfl⟩:=he
   refine JT rfl ?_ fun hp2 h=>?_
   ·simp [rdI,XJ hx,D.hd]
   ·simp [eff,hx]
  ·rename_i id lo len hx
   split at he
   ·rename_i sz' xs hl
    split at he
    ·rename_i hc
     simp only[Qb,Qe] at he
     obtain⟨rfl,rfl⟩:=he
     refine⟨fun l=>up l id (.arr s (xs.take lo)),rfl,Loc.up (.inl (by simp [muI,XJ hx,D.hd])),?_,fun hp2 h=>?_⟩
     ·simp [rdI,XJ hx,D.hd,hl]
     ·simp [rdI,XJ hx,D.hd] at h
      simp only[eff,hx,h,hl]
      rw[if_pos hc]
    ·cases he
   ·cases he
  ·cases he
 case appz s b z x l=>
  refine QdB rfl (g:=match ev sl x,(ev sl l).bind asI with|some (.nl _),some m=>if 0<m∧YY m.toNat b then some (.sl n 0 m.toNat,.arr s (List.replicate m.toNat z)) else none|_,_=>none) (fun hp=>?_) rfl he
  simp only[eff]
  split
  ·rename_i h1 h2
   simp only[h1,h2]
   split<;>rfl
  ·rename_i h1
   split
   ·rename_i h2 h3
    exact absurd h3 (fun h3=>h1 _ _ h2 h3)
   ·rfl
 case iad s x i=>
  simp only[eff] at he
  split at he
  ·rename_i id lo len j hx hj
   split at he
   ·rename_i hc
    simp only[Qb,Qe] at he
    obtain⟨rfl,rfl⟩:=he
    have hp0:lk hp id≠none:=QnX hc.2.2
    refine JT rfl ?_ fun hp2 hh=>?_
    ·simp [rdI,XJ hx,D.hd,hp0]
    ·simp [rdI,XJ hx,D.hd] at hh
     simp only[eff,hx,hj]
     rw[if_pos ⟨hc.1,hc.2.1,by rw[QnU hh];exact hc.2.2⟩]
   ·cases he
  ·rename_i s' xs j hx hj
   split at he
   ·rename_i hc
    split at he
    ·rename_i e hxe
     simp only[Qb,Qe] at he
     obtain⟨rfl,rfl⟩:=he
     refine JT rfl ?_ fun hp2 hh=>?_
     ·simp [rdI,XJ hx,D.hd]
     ·simp only[eff,hx,hj]
      rw[if_pos hc]
      simp [hxe]
    ·cases he
   ·cases he
  ·cases he
 case store m a x=>
  simp only[eff] at he
  split at he
  ·rename_i id off d0 ha hx
   split at he
   ·rename_i cs l hl hcl
    split at he
    ·rename_i hc
     simp only[Qb,Qe] at he
     obtain⟨rfl,rfl⟩:=he
     refine⟨fun hp=>up hp id (.box (XY cs off l)),rfl,Loc.up (.inl (by simp [muI,XJ ha])),by simp [rdI,XJ ha,hl],fun hp2 hh=>?_⟩
     simp [rdI,XJ ha] at hh
     simp only[eff,ha,hx,hh,hl,hcl]
     rw[if_pos hc]
    ·cases he
   ·cases he
  ·rename_i id i off d0 ha hx
   split at he
   ·rename_i sz xs hl
    split at he
    ·rename_i e d' hxe hpu
     split at he
     ·rename_i hc
      have hids:∀j∈d0.ids,j∈muI sl hp (.store m a x):=fun j hj=>by simp [muI,XJ ha,XJ hx,hj]
      have hid:id∈muI sl hp (.store m a x):=by simp [muI,XJ ha]
      have hpre:∀j∈rdI sl hp (.store m a x),lk hp j≠none:=by
       intro j hj
       simp only[rdI,XJ ha,XJ hx,Qh] at hj
       rcases hj with rfl|hj
       ·simp [hl]
       ·exact QnV hpu j hj
      have hagr:∀hp2,(∀j∈rdI sl hp (.store m a x),lk hp2 j=lk hp j)→lk hp2 id=some (.arr sz xs)∧pur hp2 d0=some d':=by
       intro hp2 hh
       simp only[rdI,XJ ha,XJ hx] at hh
       exact⟨by rw[hh id (by simp),hl],by rw[QnR fun j hj=>hh j (by simp [hj])];exact hpu⟩
      split at he
      ·rename_i hms
       split at he
       ·rename_i hok
        simp only[Qb,Qe] at he
        obtain⟨rfl,rfl⟩:=he
        refine⟨fun hp=>up (Xd d0.ids hp) id (.arr sz (xs.set i d')),rfl,Loc.comp (Loc.up (.inl hid)) (Loc.freeze fun j hj=>.inl (hids j hj)),hpre,fun hp2 hh=>?_⟩
        obtain⟨h1,h2⟩:=hagr hp2 hh
        simp only[eff,ha,hx,h1,h2,hxe]
        rw[if_pos hc,if_pos hms,if_pos hok]
       ·cases he
      ·rename_i hms
       split at he
       ·rename_i hok
        simp only[Qb,Qe] at he
        obtain⟨rfl,rfl⟩:=he
        refine⟨fun hp=>up (Xd d0.ids hp) id (.arr sz (xs.set i (.agg (XY e.cells off d'.cells)))),rfl,Loc.comp (Loc.up (.inl hid)) (Loc.freeze fun j hj=>.inl (hids j hj)),hpre,fun hp2 hh=>?_⟩
        obtain⟨h1,h2⟩:=hagr hp2 hh
        simp only[eff,ha,hx,h1,h2,hxe]
        rw[if_pos hc,if_neg hms,if_pos hok]
       ·cases he
     ·cases he
    ·cases he
   ·cases he
  ·cases he
 case cpy s x y=>
  simp only[eff] at he
  split at he
  case h_2=>cases he
  rename_i id lo len ys hx hy
  cases hy0:ev sl y with
  |none=>rw[hy0] at hy;cases hy
  |some dy=>
  rw[hy0,Option.bind_some] at hy
  split at he
  case h_2=>cases he
  rename_i sz' xs hl
  split at he
  case isFalse=>cases he
  rename_i hc
  simp only[Qb,Qe] at he
  obtain⟨rfl,rfl⟩:=he
  have hid:id∈muI sl hp (.cpy s x y):=by simp [muI,XJ hx,D.hd]
  have hr:rdI sl hp (.cpy s x y)=id::dy.hd:=by simp only[rdI,XJ hx,XJ hy0];rfl
  refine⟨fun hp=>up hp id (.arr s (XY xs lo (ys.take (min ys.length len)))),rfl,Loc.up (.inl hid),fun j hj=>?_,fun hp2 hh=>?_⟩
  ·rw[hr,Qh] at hj
   rcases hj with rfl|hj
   ·simp [hl]
   ·exact Qf9 hy j hj
  ·rw[hr] at hh
   have h1:lk hp2 id=some (.arr sz' xs):=by rw[hh id (by simp),hl]
   have h2:rdS hp2 s dy=some ys:=by rw[Qf6 fun j hj=>hh j (by simp [hj]),hy]
   simp only[eff,hx,hy0,Option.bind_some,h1,h2]
   rw[if_pos hc]
 case app s b x y=>
  simp only[eff] at he
  split at he
  ·rename_i z ys hx hy
   cases hy0:ev sl y with
   |none=>rw[hy0] at hy;cases hy
   |some dy=>
   rw[hy0,Option.bind_some] at hy
   split at he
   ·rename_i hc
    simp only[Qb,Qe] at he
    obtain⟨rfl,rfl⟩:=he
    refine⟨fun hp=>up hp n (.arr s ys),rfl,Loc.up (.inr ⟨rfl,fr⟩),?_,fun hp2 hh=>?_⟩
    ·simp only[rdI,XJ hx,XJ hy0];simpa [D.hd] using Qf9 hy
    ·simp only[rdI,XJ hx,XJ hy0] at hh
     have:rdS hp2 s dy=some ys:=by rw[Qf6 fun j hj=>hh j (by simp [hj]),hy]
     simp only[eff,hx,hy0,Option.bind_some,this]
     rw[if_pos hc]
   ·cases he
  ·rename_i id lo len ys hx hy
   cases hy0:ev sl y with
   |none=>rw[hy0] at hy;cases hy
   |some dy=>
   rw[hy0,Option.bind_some] at hy
   split at he
   ·rename_i sz' xs hl
    have hid:id∈muI sl hp (.app s b x y):=by simp [muI,XJ hx,D.hd]
    have hr:rdI sl hp (.app s b x y)=id::dy.hd:=by simp only[rdI,XJ hx,XJ hy0];rfl
    have hpre:∀j∈rdI sl hp (.app s b x y),lk hp j≠none:=by
     intro j hj
     rw[hr,Qh] at hj
     rcases hj with rfl|hj
     ·simp [hl]
     ·exact Qf9 hy j hj
    have hagr:∀hp2,(∀j∈rdI sl hp (.app s b x y),lk hp2 j=lk hp j)→lk hp2 id=some (.arr sz' xs)∧rdS hp2 s dy=some ys:=by
     intro hp2 hh
     rw[hr] at hh
     exact⟨by rw[hh id (by simp),hl],by rw[Qf6 fun j hj=>hh j (by simp [hj]),hy]⟩
    split at he
    ·rename_i hc
     split at he
     ·rename_i hlen
      simp only[Qb,Qe] at he
      obtain⟨rfl,rfl⟩:=he
      refine⟨fun hp=>up (rm hp id) n (.arr s (xs++ys)),rfl,Loc.comp (Loc.up (.inr ⟨rfl,fr⟩)) (Loc.rm (.inl hid)),hpre,fun hp2 hh=>?_⟩
      obtain⟨h1,h2⟩:=hagr hp2 hh
      simp only[eff,hx,hy0,Option.bind_some,h1,h2]
      rw[if_pos hc,if_pos hlen]
     ·rename_i hlen
      split at he
      ·rename_i hle
       simp only[Qb,Qe] at he
       obtain⟨rfl,rfl⟩:=he
       refine⟨fun hp=>up (rm hp id) n (.arr s (xs.take len++ys)),rfl,Loc.comp (Loc.up (.inr ⟨rfl,fr⟩)) (Loc.rm (.inl hid)),hpre,fun hp2 hh=>?_⟩
       obtain⟨h1,h2⟩:=hagr hp2 hh
       simp only[eff,hx,hy0,Option.bind_some,h1,h2]
       rw[if_pos hc,if_neg hlen,if_pos hle]
      ·cases he
    ·cases he
   ·cases he
  ·cases he
 case buildSl s b z m ps=>
  simp only[eff] at he
  split at he
  ·rename_i hf
   simp only[Qm] at he
   obtain⟨⟨es,f⟩,hb,hh⟩:=he
   simp only[Qe] at hh
   obtain⟨rfl,rfl⟩:=hh
   obtain⟨h1,h2⟩:=QnZ hb
   refine⟨fun hp=>up (Xd f hp) n (.arr s es),rfl,Loc.comp (Loc.up (.inr ⟨rfl,fr⟩)) (Loc.freeze fun j hj=>.inl (by rw[h1] at hj;exact hj)),h2,fun hp2 hh=>?_⟩
   simp only[eff]
   rw[if_pos hf,QnY hh,hb]
   rfl
  ·cases he
 case call|callv|callm=>simp [eff] at he
 all_goals
  refine QQL (fun hp=>?_) rfl he
  simp only[eff]
  repeat' split
  all_goals first
   |rfl
   |(simp only[Option.map_map];rfl)
   |(simp;done)
theorem Qn0:∀{ps:List (Nat×Nat×X)}{cs:List D},(∀p∈ps,ev sl2 p.2.2=ev sl p.2.2)→Zy sl2 ps cs=Zy sl ps cs
 |[],_,_=>rfl
 |(a,b,x)::ps,cs,h=>by
  simp only[Zy,h (a,b,x) (by simp)]
  split
  ·split
   ·exact Qn0 fun p hp=>h p (Qs _ hp)
   ·rfl
  ·rfl
theorem Qn1{sz:Nat}:∀{ps:List (Nat×X)}{es:List D},(∀p∈ps,ev sl2 p.2=ev sl p.2)→Yh sl2 hp sz ps es=Yh sl hp sz ps es
 |[],_,_=>rfl
 |(a,x)::ps,es,h=>by
  simp only[Yh,h (a,x) (by simp)]
  split
  ·split
   ·split
    ·rw[Qn1 fun p hp=>h p (Qs _ hp)]
    ·rfl
   ·rfl
  ·rfl
theorem Qn2{d0:Int}{x:Option X}(h:∀y∈x.toList,ev sl2 y=ev sl y):Y9 sl2 d0 x=Y9 sl d0 x:=by
 cases x with
 |none=>rfl
 |some y=>simp only[Y9,h y (by simp)]
theorem QQN{op:LOp}(h:∀x∈op.xs,ev sl2 x=ev sl x):eff n sl2 hp op=eff n sl hp op:=by
 cases op<;>simp only[LOp.xs,Qh,List.not_mem_nil,or_false,QG,forall_eq,Qg,Qu,forall_exists_index,and_imp,forall_apply_eq_imp_iff₂] at h
 case build z ps=>simp only[eff,Qn0 (fun p hp=>h p hp)]
 case buildSl s b z m ps=>simp only[eff,Qn1 (fun p hp=>h p hp)]
 case slc s x lo hi=>simp only[eff,h.1,Qn2 (fun y hy=>h.2 y (.inl hy)),Qn2 (fun y hy=>h.2 y (.inr hy))]
 case mkf f l=>simp only[eff,Qaa h]
 case mn l=>simp only[eff,Qaa h]
 case mx l=>simp only[eff,Qaa h]
 case call=>simp only[eff]
 case callv=>simp only[eff]
 all_goals first|rfl|simp only[eff,h]
theorem Qbx:n≤(Q6 n d).2.2∧∀p∈(Q6 n d).2.1,n≤p.1∧p.1<(Q6 n d).2.2:=by
 cases d<;>simp [Q6]
theorem QaX{f:Nat→D→D×qHp×Nat}(hf:∀n d,n≤(f n d).2.2∧∀p∈(f n d).2.1,n≤p.1∧p.1<(f n d).2.2):
  ∀{ds:List D}{n:Nat},n≤(Xj f n ds).2.2∧∀p∈(Xj f n ds).2.1,n≤p.1∧p.1<(Xj f n ds).2.2
 |[],n=>by simp [Xj]
 |d::ds,n=>by
  obtain⟨h1,h2⟩:=hf n d
  obtain⟨h3,h4⟩:=QaX hf (ds:=ds) (n:=(f n d).2.2)
  simp only[Xj]
  refine⟨Qt h1 h3,fun p hp=>?_⟩
  rcases Qg.1 hp with hp|hp
  ·exact⟨(h2 p hp).1,QL (h2 p hp).2 h3⟩
  ·exact⟨Qt h1 (h4 p hp).1,(h4 p hp).2⟩
theorem QQO:n≤(Yy n d).2.2∧∀p∈(Yy n d).2.1,n≤p.1∧p.1<(Yy n d).2.2:=by
 cases d<;>simp only[Yy]
 case box cs=>
  obtain⟨h1,h2⟩:=QaX (f:=Q6) (fun n d=>Qbx) (ds:=cs) (n:=n+1)
  refine⟨by omega,fun p hp=>?_⟩
  rcases Qh.1 hp with rfl|hp
  ·simp only;omega
  ·have:=h2 p hp;omega
 all_goals exact Qbx
theorem Qn3:n≤(Xg n d).2.2∧∀p∈(Xg n d).2.1,n≤p.1∧p.1<(Xg n d).2.2:=by
 cases d<;>simp only[Xg]
 case agg cs=>exact QaX (fun n d=>Qbx)
 case clb f cs=>exact QaX (fun n d=>QQO)
 case box cs=>
  obtain⟨h1,h2⟩:=QaX (f:=Q6) (fun n d=>Qbx) (ds:=cs) (n:=n+1)
  refine⟨by omega,fun p hp=>?_⟩
  rcases Qh.1 hp with rfl|hp
  ·simp only;omega
  ·have:=h2 p hp;omega
 all_goals exact Qbx
theorem adopt_rng:n≤(XI n d).2.2∧∀p∈(XI n d).2.1,n≤p.1∧p.1<(XI n d).2.2:=by
 cases d<;>simp only[XI]
 case tup cs=>exact QaX (fun n d=>Qn3)
 all_goals exact Qn3
theorem Qn4{e:D}(h:Xl hp d=some (e,hp')):∃T,hp'=T hp∧Loc (fun id=>id∈d.ids) T∧(∀(l:qHp) id e,lk (T l) id=some e→lk l id=some e)∧(∀id∈d.rch hp,lk hp id≠none)∧
  ∀hp2,(∀id∈d.ids,lk hp2 id=lk hp id)→Xl hp2 d=some (e,T hp2):=by
 cases d<;>simp only[Xl,reduceCtorEq] at h
 case sl id lo len=>
  have hid:id∈D.ids (.sl id lo len):=by simp [D.ids,D.ids0]
  have hpre:∀e,lk hp id=some e→∀i∈D.rch hp (.sl id lo len),lk hp i≠none:=by
   intro e he i hi
   simp only[D.rch,D.rch1,D.ids0,Qn] at hi
   subst hi
   rw[he];simp
  have rmc:∀(l:qHp) i e,lk (rm l id) i=some e→lk l i=some e:=by
   intro l i e he
   rw[ZG] at he
   split at he
   ·cases he
   ·exact he
  split at h
  ·rename_i sz xs hl
   split at h
   case isFalse=>cases h
   rename_i hlo
   split at h
   ·rename_i hlen
    simp only[Qb,Qe] at h
    obtain⟨rfl,rfl⟩:=h
    exact⟨fun l=>rm l id,rfl,Loc.rm hid,rmc,hpre _ hl,fun hp2 hh=>by simp only[Xl,hh id hid,hl,hlo,hlen,if_true]⟩
   ·rename_i hlen
    split at h
    ·rename_i hle
     simp only[Qb,Qe] at h
     obtain⟨rfl,rfl⟩:=h
     exact⟨fun l=>rm l id,rfl,Loc.rm hid,rmc,hpre _ hl,fun hp2 hh=>by simp only[Xl,hh id hid,hl,hlo,if_true];rw[if_neg hlen,if_pos hle]⟩
    ·cases h
  ·rename_i sz xs hl
   split at h
   ·rename_i hc
    simp only[Qb,Qe] at h
    obtain⟨rfl,rfl⟩:=h
    exact⟨fun l=>l,rfl,Loc.id,fun _ _ _ h=>h,hpre _ hl,fun hp2 hh=>by simp only[Xl,hh id hid,hl];rw[if_pos hc]⟩
   ·rename_i hc
    split at h
    ·rename_i hle
     simp only[Qb,Qe] at h
     obtain⟨rfl,rfl⟩:=h
     exact⟨fun l=>l,rfl,Loc.id,fun _ _ _ h=>h,hpre _ hl,fun hp2 hh=>by simp only[Xl,hh id hid,hl];rw[if_neg hc,if_pos hle]⟩
    ·cases h
  ·cases h
 case clo f cs=>
  split at h
  ·rename_i ho
   simp only[Qb,Qe] at h
   obtain⟨rfl,rfl⟩:=h
   refine⟨fun l=>l,rfl,Loc.id,fun _ _ _ h=>h,?_,fun hp2 _=>by simp only[Xl,ho,if_true]⟩
   intro id hi
   simp only[D.rch,Qp] at hi
   obtain⟨c,hc,hi⟩:=hi
   have:=Qr.1 ho c hc
   cases c<;>simp [X5,D.rch1,D.ids0] at this hi
  ·cases h
 all_goals
  simp only[Qb,Qe] at h
  obtain⟨rfl,rfl⟩:=h
  exact⟨fun l=>l,rfl,Loc.id,fun _ _ _ h=>h,by simp [D.rch,D.rch1,D.ids0],fun hp2 _=>rfl⟩
theorem QQP{e:D}(h:Zb hp d=some (e,hp')):∃T,hp'=T hp∧Loc (fun id=>id∈d.ids) T∧(∀(l:qHp) id e,lk (T l) id=some e→lk l id=some e)∧(∀id∈d.rch hp,lk hp id≠none)∧
  ∀hp2,(∀id∈d.ids,lk hp2 id=lk hp id)→Zb hp2 d=some (e,T hp2):=by
 cases d<;>simp only[Zb] at h ⊢
 case nl s=>
  simp only[Qb,Qe] at h
  obtain⟨rfl,rfl⟩:=h
  exact⟨fun l=>l,rfl,Loc.id,fun _ _ _ h=>h,by simp [D.rch,D.rch1,D.ids0],fun hp2 _=>rfl⟩
 case clo=>cases h
 all_goals exact Qn4 h
def D.nPc:D→Bool
 | .pt ..| .clo ..=>false
 |_=>true
theorem Qga{e:D}(h:Zb hp d=some (e,hp')):D.rch hp d=d.ids∧d.nPc=true:=by
 cases d<;>simp only[Zb,Xl,reduceCtorEq] at h<;>simp [D.rch,D.rch1,D.ids,D.ids0,D.nPc]
theorem Loc.mono{S S':Nat→Prop}{T:qHp→qHp}(h:Loc S T)(hs:∀id,S id→S' id):Loc S' T:=
 ⟨fun l id hn=>h.out l id fun hh=>hn (hs id hh),fun l m he id hi=>by
  by_cases hS:S id
  ·exact h.same l m (fun i hi=>he i (hs i hi)) id hS
  ·rw[h.out l id hS,h.out m id hS];exact he id hi⟩
theorem Qgb:∀{md:List Md}{ds:List D},∀d∈Xw md ds,d∈ds
 |[],ds,d,h=>by cases ds<;>simpa [Xw] using h
 |m::md,[],d,h=>by cases m<;>simp [Xw] at h
 |m::md,c::ds,d,h=>by
  cases m
  case rd=>
   rcases Qh.1 h with rfl|h
   ·simp
   ·exact Qs _ (Qgb d h)
  all_goals exact Qs _ (Qgb (md:=md) d h)
theorem Qgc:∀{md:List Md}{es:List D},(∀d∈Xw md es,∀id∈d.rch hp,lk hp2 id=lk hp id)→XL hp2 md es=XL hp md es
 |[],es,h=>by
  have e1:∀hp,XL hp [] es=Q1 (Xz hp) es:=fun hp=>by cases es<;>rfl
  have e2:Xw [] es=es:=by cases es<;>rfl
  rw[e1,e1]
  rw[e2] at h
  exact Qaa fun d hd=>QnT (h d hd)
 |m::md,[],_=>by cases m<;>rfl
 |m::md,e::es,h=>by
  by_cases hm:m=.rd
  ·subst hm
   simp only[XL]
   rw[QnT (h e (by simp [Xw])),Qgc (fun d hd=>h d (by simp only[Xw];exact Qs _ hd))]
  ·rw[Qdw hm,Qdw hm,Qgc (fun d hd=>h d (by rw[Qci hm];exact hd))]
theorem Qn5{e:D}(hs:Sub hp2 hp)(h:Xv hp2 d=some e):d.rch1 hp=d.rch1 hp2:=by
 cases d<;>simp only[D.rch1]
 case pt id off=>
  simp only[Xv] at h
  split at h
  ·rename_i cs hcs
   simp only[hs _ _ hcs,hcs]
  ·cases h
theorem QQQ{e:D}(hs:Sub hp2 hp)(h:Xz hp2 d=some e):d.rch hp=d.rch hp2:=by
 cases d<;>simp only[D.rch]<;>simp only[Xz] at h
 case clo f cs=>
  simp only[Qm] at h
  obtain⟨l,hl,_⟩:=h
  have:∀c∈cs,D.rch1 hp c=D.rch1 hp2 c:=fun c hc=>let ⟨e,he⟩:=QdA hl c hc;Qn5 hs he
  clear hl
  induction cs with
  |nil=>rfl
  |cons c cs ih=>rw[List.flatMap_cons,List.flatMap_cons,this c (by simp),ih fun c hc=>this c (Qs _ hc)]
 all_goals exact Qn5 hs h
structure Frm(f:Hp→D→Option (D×Hp))(r:Hp→D→List Nat):Prop where
 fr:∀{hp hp':Hp}{d e:D},f hp d=some (e,hp')→∃T:Hp→Hp,hp'=T hp∧Loc (fun id=>id∈r hp d) T∧(∀(l:Hp) id e,lk (T l) id=some e→lk l id=some e)∧(∀id∈r hp d,lk hp id≠none)∧
  ∀hp2,(∀id∈r hp d,lk hp2 id=lk hp id)→r hp2 d=r hp d∧f hp2 d=some (e,T hp2)
theorem QdC{f:Hp→D→Option (D×Hp)}{r:Hp→D→List Nat}(hf:Frm f r):∀{ds es:List D}{hp hp':Hp},XS f hp ds=some (es,hp')→∃T:Hp→Hp,hp'=T hp∧Loc (fun id=>id∈ds.flatMap (r hp)) T∧(∀(l:Hp) id e,lk (T l) id=some e→lk l id=some e)∧
  (∀id∈ds.flatMap (r hp),lk hp id≠none)∧∀hp2,(∀id∈ds.flatMap (r hp),lk hp2 id=lk hp id)→ds.flatMap (r hp2)=ds.flatMap (r hp)∧XS f hp2 ds=some (es,T hp2)
 |[],es,hp,hp',h=>by
  simp only[XS,Qb,Qe] at h
  obtain⟨rfl,rfl⟩:=h
  exact⟨fun l=>l,rfl,Loc.id,fun _ _ _ h=>h,by simp,fun hp2 _=>⟨rfl,rfl⟩⟩
 |d::ds,es,hp,hp',h=>by
  simp only[XS] at h
  split at h
  case h_2=>cases h
  rename_i e hp1 h1
  split at h
  case h_2=>cases h
  rename_i l hp3 h2
  simp only[Qb,Qe] at h
  obtain⟨rfl,rfl⟩:=h
  obtain⟨T1,rfl,L1,R1,P1,G1⟩:=hf.fr h1
  obtain⟨T2,rfl,L2,R2,P2,G2⟩:=QdC hf h2
  have ag:∀id∈ds.flatMap (r (T1 hp)),lk hp id=lk (T1 hp) id:=fun id hi=>by
   cases hl:lk (T1 hp) id with
   |none=>exact absurd hl (P2 id hi)
   |some e=>exact R1 _ _ _ hl
  have er:ds.flatMap (r hp)=ds.flatMap (r (T1 hp)):=(G2 hp ag).1
  simp only[List.flatMap_cons]
  refine⟨fun l=>T2 (T1 l),rfl,Loc.comp (L2.mono fun id hi=>Qg.2 (.inr (by rw[er];exact hi))) (L1.mono fun id hi=>Qg.2 (.inl hi)),fun l id e he=>R1 _ _ _ (R2 _ _ _ he),fun id hi=>?_,fun hp2 hh=>?_⟩
  ·rcases Qg.1 hi with hi|hi
   ·exact P1 id hi
   ·rw[er] at hi
    rw[ag id hi];exact P2 id hi
  ·obtain⟨e1,g1⟩:=G1 hp2 fun id hi=>hh id (Qg.2 (.inl hi))
   have hr:∀id∈ds.flatMap (r (T1 hp)),lk hp2 id=lk hp id:=fun id hi=>hh id (Qg.2 (.inr (by rw[er];exact hi)))
   obtain⟨_,g2⟩:=G2 (T1 hp2) fun id hi=>by
    by_cases hid:id∈r hp d
    ·exact L1.same _ _ (fun i hi=>hh i (Qg.2 (.inl hi))) id hid
    ·rw[L1.out _ id hid,L1.out _ id hid];exact hr id hi
   have e3:=(G2 hp2 fun id hi=>by rw[hr id hi,ag id hi]).1
   exact⟨by rw[e1,e3,er],by simp only[XS,g1,g2]⟩
theorem frm_expel0:Frm Xl (fun _ d=>d.ids0):=⟨fun {hp hp' d e} h=>by
 have e1:d.ids=d.ids0:=by cases d<;>first|rfl|simp [Xl] at h
 obtain⟨T,h1,h2,h3,h4,h5⟩:=Qn4 h
 rw[e1] at h2 h5
 exact⟨T,h1,h2,h3,fun id hi=>h4 id (by cases d<;>simp [D.ids0,D.rch,D.rch1] at hi ⊢;exact hi),fun hp2 hh=>⟨rfl,h5 hp2 hh⟩⟩⟩
theorem QQR:Frm ZP (fun _ d=>d.ids0):=⟨fun {hp hp' d e} h=>by
 cases d
 case nl sz=>
  simp only[ZP,Qb,Qe] at h
  obtain⟨rfl,rfl⟩:=h
  exact⟨fun l=>l,rfl,Loc.id,fun _ _ _ h=>h,by simp [D.ids0],fun hp2 _=>⟨rfl,rfl⟩⟩
 all_goals exact frm_expel0.fr h⟩
theorem Qn6{f:Hp→D→Option (D×Hp)}(hf:Frm f (fun _ d=>d.ids0)){hp hp':Hp}{id off:Nat}{e:D}{g:Hp→D→Option (D×Hp)}(hg:∀hp,g hp (.pt id off)=match lk hp id with|some (.box cs)=>if off=0 then (XS f (rm hp id) cs).map fun (l,hp)=>(.box l,hp) else none|_=>none)
  (h:g hp (.pt id off)=some (e,hp')):∃T:Hp→Hp,hp'=T hp∧Loc (fun i=>i∈D.rch1 hp (.pt id off)) T∧(∀(l:Hp) i e,lk (T l) i=some e→lk l i=some e)∧(∀i∈D.rch1 hp (.pt id off),lk hp i≠none)∧
  ∀hp2,(∀i∈D.rch1 hp (.pt id off),lk hp2 i=lk hp i)→D.rch1 hp2 (.pt id off)=D.rch1 hp (.pt id off)∧g hp2 (.pt id off)=some (e,T hp2):=by
 rw[hg] at h
 split at h
 case h_2=>cases h
 rename_i cs hl
 split at h
 case isFalse=>cases h
 rename_i h0
 simp only[Qm] at h
 obtain⟨⟨l,hp1⟩,h1,h2⟩:=h
 simp only[Qe] at h2
 obtain⟨rfl,rfl⟩:=h2
 obtain⟨T,rfl,L,R,Pp,G⟩:=QdC hf h1
 have er:D.rch1 hp (.pt id off)=id::cs.flatMap D.ids0:=by simp only[D.rch1,hl]
 rw[er]
 have hrm:∀(l:Hp) i e,lk (rm l id) i=some e→lk l i=some e:=fun l i e he=>by
  rw[ZG] at he
  split at he
  ·cases he
  ·exact he
 refine⟨fun l=>T (rm l id),rfl,Loc.comp (L.mono fun i hi=>Qs _ hi) (Loc.rm (by simp)),fun l i e he=>hrm _ _ _ (R _ _ _ he),fun i hi=>?_,fun hp2 hh=>?_⟩
 ·rcases Qh.1 hi with rfl|hi
  ·rw[hl];simp
  ·cases hq:lk (rm hp id) i with
   |none=>exact absurd hq (Pp i hi)
   |some e=>rw[hrm _ _ _ hq];simp
 ·have h2:lk hp2 id=some (.box cs):=by rw[hh id (by simp),hl]
  refine⟨by simp only[D.rch1,h2],?_⟩
  rw[hg,h2]
  simp only
  rw[if_pos h0,(G (rm hp2 id) fun i hi=>?_).2]
  ·rfl
  ·rw[ZG,ZG]
   split
   ·rfl
   ·exact hh i (Qs _ hi)
theorem QQS:Frm JB (fun hp d=>d.rch1 hp):=⟨fun {hp hp' d e} h=>by
 have key:(∀hp,JB hp d=Xl hp d)→(∀hp:Hp,d.rch1 hp=d.ids0)→∃T:Hp→Hp,hp'=T hp∧Loc (fun id=>id∈d.rch1 hp) T∧(∀(l:Hp) id e,lk (T l) id=some e→lk l id=some e)∧(∀id∈d.rch1 hp,lk hp id≠none)∧
   ∀hp2,(∀id∈d.rch1 hp,lk hp2 id=lk hp id)→d.rch1 hp2=d.rch1 hp∧JB hp2 d=some (e,T hp2):=fun h0 h1=>by
  rw[h0] at h
  obtain⟨T,a,b,c,e1,f⟩:=frm_expel0.fr h
  rw[h1 hp]
  exact⟨T,a,b,c,e1,fun hp2 hh=>⟨h1 hp2,by rw[h0];exact (f hp2 hh).2⟩⟩
 cases d
 case pt id off=>exact Qn6 QQR (g:=JB) (fun hp=>rfl) h
 case agg cs=>simp [JB,Xl] at h
 all_goals exact key (fun _=>rfl) (fun _=>rfl)⟩
theorem QQT:Frm Xx (fun hp d=>d.rch hp):=⟨fun {hp hp' d e} h=>by
 have key:(∀hp,Xx hp d=Xl hp d)→(∀hp:Hp,d.rch hp=d.ids0)→∃T:Hp→Hp,hp'=T hp∧Loc (fun id=>id∈d.rch hp) T∧(∀(l:Hp) id e,lk (T l) id=some e→lk l id=some e)∧(∀id∈d.rch hp,lk hp id≠none)∧
   ∀hp2,(∀id∈d.rch hp,lk hp2 id=lk hp id)→d.rch hp2=d.rch hp∧Xx hp2 d=some (e,T hp2):=fun h0 h1=>by
  rw[h0] at h
  obtain⟨T,a,b,c,e1,f⟩:=frm_expel0.fr h
  rw[h1 hp]
  exact⟨T,a,b,c,e1,fun hp2 hh=>⟨h1 hp2,by rw[h0];exact (f hp2 hh).2⟩⟩
 cases d
 case pt id off=>exact Qn6 frm_expel0 (g:=Xx) (fun hp=>rfl) h
 case agg cs=>
  simp only[Xx,Qm] at h
  obtain⟨⟨l,hp1⟩,h1,h2⟩:=h
  simp only[Qe] at h2
  obtain⟨rfl,rfl⟩:=h2
  obtain⟨T,rfl,L,R,Pp,G⟩:=QdC frm_expel0 h1
  exact⟨T,rfl,L,R,Pp,fun hp2 hh=>⟨rfl,by simp only[Xx,(G hp2 hh).2,Option.map_some]⟩⟩
 case clo f cs=>
  simp only[Xx,Qm] at h
  obtain⟨⟨l,hp1⟩,h1,h2⟩:=h
  simp only[Qe] at h2
  obtain⟨rfl,rfl⟩:=h2
  obtain⟨T,rfl,L,R,Pp,G⟩:=QdC QQS h1
  exact⟨T,rfl,L,R,Pp,fun hp2 hh=>⟨(G hp2 hh).1,by simp only[Xx,(G hp2 hh).2,Option.map_some]⟩⟩
 all_goals exact key (fun _=>rfl) (fun _=>rfl)⟩
theorem Qn7:Frm Zb (fun _ d=>d.ids):=⟨fun {hp hp' d e} h=>by
 obtain⟨T,h1,h2,h3,h4,h5⟩:=QQP h
 exact⟨T,h1,h2,h3,fun id hi=>h4 id (by rw[(Qga h).1];exact hi),fun hp2 hh=>⟨rfl,h5 hp2 hh⟩⟩⟩
def rG(m:Md)(hp:Hp)(d:D):List Nat:=match m with
 | .rd=>[]
 | .mp=>d.rch hp
 |_=>d.ids
theorem QQU(m:Md):Frm (fun hp d=>ZQ hp m d) (rG m):=by
 cases m
 case rd=>
  refine⟨fun {hp hp' d e} h=>?_⟩
  simp only[ZQ,Qb,Qe] at h
  obtain⟨rfl,rfl⟩:=h
  exact⟨fun l=>l,rfl,Loc.id,fun _ _ _ h=>h,by simp [rG],fun hp2 _=>⟨rfl,rfl⟩⟩
 case mp=>exact QQT
 case mu=>exact Qn7
 case ow=>exact Qn7
def gM(hp:Hp):List Md→List D→List Nat
 |m::md,d::ds=>rG m hp d++gM hp md ds
 |_,_=>[]
theorem Qn8:∀{md:List Md}{ds es:List D}{hp hp':Hp},Yi hp md ds=some (es,hp')→∃T:Hp→Hp,hp'=T hp∧Loc (fun id=>id∈gM hp md ds) T∧(∀(l:Hp) id e,lk (T l) id=some e→lk l id=some e)∧
  (∀id∈gM hp md ds,lk hp id≠none)∧Xw md es=Xw md ds∧∀hp2,(∀id∈gM hp md ds,lk hp2 id=lk hp id)→gM hp2 md ds=gM hp md ds∧Yi hp2 md ds=some (es,T hp2)
 |[],ds,es,hp,hp',h=>by
  have:es=ds∧hp'=hp:=by cases ds<;>simp only[Yi,Qb,Qe] at h<;>exact⟨h.1.symm,h.2.symm⟩
  obtain⟨rfl,rfl⟩:=this
  exact⟨fun l=>l,rfl,Loc.id,fun _ _ _ h=>h,by simp [gM],rfl,fun hp2 _=>⟨rfl,by cases es<;>rfl⟩⟩
 |m::md,[],es,hp,hp',h=>by
  simp only[Yi,Qb,Qe] at h
  obtain⟨rfl,rfl⟩:=h
  exact⟨fun l=>l,rfl,Loc.id,fun _ _ _ h=>h,by simp [gM],rfl,fun hp2 _=>⟨rfl,rfl⟩⟩
 |m::md,d::ds,es,hp,hp',h=>by
  simp only[Yi] at h
  split at h
  case h_2=>cases h
  rename_i e hp1 h1
  split at h
  case h_2=>cases h
  rename_i l hp3 h2
  simp only[Qb,Qe] at h
  obtain⟨rfl,rfl⟩:=h
  have hrd:∀(l:List D),Xw md l=Xw md ds→Xw (m::md) (e::l)=Xw (m::md) (d::ds):=fun l hl=>by
   by_cases hm:m=.rd
   ·subst hm
    simp only[ZQ,Qb,Qe] at h1
    simp only[Xw,h1.1,hl]
   ·rw[Qci hm,Qci hm,hl]
  obtain⟨T1,rfl,L1,R1,P1,G1⟩:=(QQU m).fr h1
  obtain⟨T2,rfl,L2,R2,P2,Q2,G2⟩:=Qn8 h2
  have ag:∀id∈gM (T1 hp) md ds,lk hp id=lk (T1 hp) id:=fun id hi=>by
   cases hl:lk (T1 hp) id with
   |none=>exact absurd hl (P2 id hi)
   |some e=>exact R1 _ _ _ hl
  have er:gM hp md ds=gM (T1 hp) md ds:=(G2 hp ag).1
  simp only[gM]
  refine⟨fun l=>T2 (T1 l),rfl,Loc.comp (L2.mono fun id hi=>Qg.2 (.inr (by rw[er];exact hi))) (L1.mono fun id hi=>Qg.2 (.inl hi)),fun l id e he=>R1 _ _ _ (R2 _ _ _ he),fun id hi=>?_,hrd _ Q2,fun hp2 hh=>?_⟩
  ·rcases Qg.1 hi with hi|hi
   ·exact P1 id hi
   ·rw[er] at hi
    rw[ag id hi];exact P2 id hi
  ·obtain⟨e1,g1⟩:=G1 hp2 fun id hi=>hh id (Qg.2 (.inl hi))
   have hr:∀id∈gM (T1 hp) md ds,lk hp2 id=lk hp id:=fun id hi=>hh id (Qg.2 (.inr (by rw[er];exact hi)))
   obtain⟨_,g2⟩:=G2 (T1 hp2) fun id hi=>by
    by_cases hid:id∈rG m hp d
    ·exact L1.same _ _ (fun i hi=>hh i (Qg.2 (.inl hi))) id hid
    ·rw[L1.out _ id hid,L1.out _ id hid];exact hr id hi
   have e3:=(G2 hp2 fun id hi=>by rw[hr id hi,ag id hi]).1
   exact⟨by rw[e1,e3,er],by simp only[Yi,g1,g2]⟩
def muD(hp:Hp):List Md→List D→List Nat
 | .mp::md,d::ds=>d.rch hp++muD hp md ds
 |_::md,d::ds=>d.ids++muD hp md ds
 |[],ds=>ds.flatMap D.ids
 |_::_,[]=>[]
theorem Qck{hp:Hp}(d:D):∀id∈d.ids,id∈d.rch hp:=by
 intro id
 cases d<;>simp [D.ids,D.rch,D.rch1,D.ids0]
theorem Qgd{hp:Hp}:∀{md:List Md}{ds:List D},∀id∈gM hp md ds,id∈muD hp md ds
 |[],ds,id,h=>by simp [gM] at h
 |m::md,[],id,h=>by simp [gM] at h
 |m::md,d::ds,id,h=>by
  simp only[gM,Qg] at h
  have ih:=Qgd (hp:=hp) (md:=md) (ds:=ds) id
  cases m<;>simp only[muD,Qg,rG] at h ⊢
  case rd=>rcases h with h|h;cases h;exact .inr (ih h)
  all_goals exact h.imp (fun h=>h) ih
theorem Qn9{hp:Hp}:∀{md:List Md}{ds:List D},∀d∈Xw md ds,∀id∈d.ids,id∈muD hp md ds
 |[],ds,d,hd,id,hi=>by
  have e1:muD hp [] ds=ds.flatMap D.ids:=by cases ds<;>rfl
  have e2:Xw [] ds=ds:=by cases ds<;>rfl
  rw[e2] at hd
  rw[e1];exact Qp.2 ⟨d,hd,hi⟩
 |m::md,[],d,hd,id,hi=>by cases m<;>simp [Xw] at hd
 |m::md,c::ds,d,hd,id,hi=>by
  have ih:=Qn9 (hp:=hp) (md:=md) (ds:=ds)
  cases m<;>simp only[Xw,Qh,muD,Qg] at hd ⊢
  case rd=>
   rcases hd with rfl|hd
   ·exact .inl hi
   ·exact .inr (ih d hd id hi)
  all_goals exact .inr (ih d hd id hi)
theorem Qge{hp:Hp}:∀{md:List Md}{ds:List D},∀id∈muD hp md ds,id∈ds.flatMap (D.rch hp)
 |[],ds,id,h=>by
  have e1:muD hp [] ds=ds.flatMap D.ids:=by cases ds<;>rfl
  rw[e1] at h
  obtain⟨d,hd,hi⟩:=Qp.1 h
  exact Qp.2 ⟨d,hd,Qck d id hi⟩
 |m::md,[],id,h=>by cases m<;>simp [muD] at h
 |m::md,c::ds,id,h=>by
  have ih:=Qge (hp:=hp) (md:=md) (ds:=ds) id
  rw[List.flatMap_cons,Qg]
  cases m<;>simp only[muD,Qg] at h
  case mp=>exact h.imp (fun h=>h) ih
  all_goals exact h.imp (Qck c id) ih
theorem Qoa{d:D}(h:d.nPc=true)(hp:Hp):d.rch hp=d.ids:=by
 cases d<;>simp [D.nPc] at h<;>rfl
theorem Qob{hp hp':Hp}{m:Md}{d e:D}(h:ZQ hp m d=some (e,hp'))(h1:m≠.rd)(h2:m≠.mp):d.nPc=true:=by
 cases m
 case rd=>exact absurd rfl h1
 case mp=>exact absurd rfl h2
 case mu=>exact (Qga h).2
 case ow=>exact (Qga h).2
theorem Qoc:∀{md:List Md}{ds es:List D}{hp hp':Hp},Yi hp md ds=some (es,hp')→∀d∈ds,d∈Xw md ds∨∀hp0,∀id∈d.rch hp0,id∈gM hp0 md ds
 |[],ds,es,hp,hp',h,d,hd=>by
  have e2:Xw [] ds=ds:=by cases ds<;>rfl
  exact .inl (by rw[e2];exact hd)
 |m::md,[],es,hp,hp',h,d,hd=>by cases hd
 |m::md,c::ds,es,hp,hp',h,d,hd=>by
  simp only[Yi] at h
  split at h
  case h_2=>cases h
  rename_i e hp1 h1
  split at h
  case h_2=>cases h
  rename_i l hp3 h2
  rcases Qh.1 hd with rfl|hd
  ·by_cases hm:m=.rd
   ·subst hm;exact .inl (by simp [Xw])
   ·refine .inr fun hp0 id hi=>?_
    simp only[gM,Qg]
    by_cases hp:m=.mp
    ·subst hp;exact .inl hi
    ·rw[Qoa (Qob h1 hm hp)] at hi
     cases m
     case rd=>exact absurd rfl hm
     case mp=>exact absurd rfl hp
     all_goals exact .inl hi
  ·rcases Qoc h2 d hd with h|h
   ·left
    cases m<;>simp only[Xw,Qh]
    case rd=>exact .inr h
    all_goals exact h
   ·exact .inr fun hp0 id hi=>by simp only[gM,Qg];exact .inr (h hp0 id hi)
def D.own1:D→List Nat
 | .pt id _=>[id]
 |_=>[]
def D.own:D→List Nat
 | .sl id _ _=>[id]
 | .pt id _=>[id]
 | .clo _ cs=>cs.flatMap D.own1
 |_=>[]
theorem QQV{hp:Hp}(d:D):∀id∈d.own,id∈d.rch hp:=by
 intro id hi
 cases d<;>simp only[D.own,Qn,List.not_mem_nil] at hi
 case sl=>simp [D.rch,D.rch1,D.ids0,hi]
 case pt=>simp [D.rch,D.rch1,hi]
 case clo f cs=>
  obtain⟨c,hc,hi⟩:=Qp.1 hi
  simp only[D.rch]
  refine Qp.2 ⟨c,hc,?_⟩
  cases c<;>simp only[D.own1,Qn,List.not_mem_nil] at hi
  simp [D.rch1,hi]
theorem Qod(hp0:Hp):∀{md:List Md}{ds es:List D}{hp hp':Hp}{k:Nat},Yi hp md ds=some (es,hp')→∀i∈Yz k md,k≤i∧∀y,ds[i-k]?=some y→∀id∈y.own,id∈muD hp0 md ds
 |[],ds,es,hp,hp',k,h,i,hi=>by simp [Yz] at hi
 |m::md,[],es,hp,hp',k,h,i,hi=>by
  have key:∀(md:List Md)(k:Nat),∀i∈Yz k md,k≤i:=fun md=>by
   induction md with
   |nil=>simp [Yz]
   |cons m md ih=>
    intro k i hi
    cases m<;>simp only[Yz,Qh] at hi
    case mu=>rcases hi with rfl|hi;omega;have:=ih _ i hi;omega
    case mp=>rcases hi with rfl|hi;omega;have:=ih _ i hi;omega
    all_goals have:=ih _ i hi;omega
  exact⟨key _ _ i hi,by simp⟩
 |m::md,d::ds,es,hp,hp',k,h,i,hi=>by
  simp only[Yi] at h
  split at h
  case h_2=>cases h
  rename_i e hp1 h1
  split at h
  case h_2=>cases h
  rename_i l hp3 h2
  have tail:i∈Yz (k+1) md→k≤i∧∀y,(d::ds)[i-k]?=some y→∀id∈y.own,id∈muD hp0 (m::md) (d::ds):=fun hi=>by
   obtain⟨g1,g2⟩:=Qod hp0 h2 i hi
   refine⟨by omega,fun y hy id hid=>?_⟩
   rw[show i-k=(i-(k+1))+1 by omega,List.getElem?_cons_succ] at hy
   have:=g2 y hy id hid
   cases m<;>simp only[muD,Qg]<;>exact .inr this
  have head:i=k→(m=.mp∨d.nPc=true)→k≤i∧∀y,(d::ds)[i-k]?=some y→∀id∈y.own,id∈muD hp0 (m::md) (d::ds):=fun e hm=>by
   subst e
   refine⟨Qf _,fun y hy id hid=>?_⟩
   rw[Nat.sub_self,List.getElem?_cons_zero,Qb] at hy
   subst hy
   have hr:=QQV (hp:=hp0) d id hid
   rcases hm with rfl|hm
   ·simp only[muD,Qg];exact .inl hr
   ·rw[Qoa hm] at hr
    cases m<;>simp only[muD,Qg]
    case mp=>exact .inl (Qck d id hr)
    all_goals exact .inl hr
  cases m<;>simp only[Yz,Qh] at hi
  case mu=>
   rcases hi with hi|hi
   ·exact head hi (.inr (Qob h1 (by simp) (by simp)))
   ·exact tail hi
  case mp=>
   rcases hi with hi|hi
   ·exact head hi (.inl rfl)
   ·exact tail hi
  all_goals exact tail hi
theorem QQW{md:List Md}{ds args:List D}(hg:Z4 hp md ds=some (args,hp')):
  ∃T,hp'=T hp∧Loc (fun id=>id∈muD hp md ds) T∧(∀id∈ds.flatMap (D.rch hp),lk hp id≠none)∧(∀i∈Yz 0 md,∀y,ds[i]?=some y→∀id∈y.own,id∈muD hp md ds)∧
   ∀hp2,(∀id∈ds.flatMap (D.rch hp),lk hp2 id=lk hp id)→Z4 hp2 md ds=some (args,T hp2):=by
 have hge:∀hp,Z4 hp md ds=match Yi hp md ds with
   |some (es,hp1)=>(XL hp1 md es).map fun l=>(l,hp1)
   |none=>none:=by
  intro hp
  cases md with
  |nil=>
   have e1:Yi hp [] ds=some (ds,hp):=by cases ds<;>rfl
   have e2:XL hp [] ds=Q1 (Xz hp) ds:=by cases ds<;>rfl
   simp only[Z4,e1,e2]
  |cons m md=>rfl
 have hrdl:=QnE hg
 rw[hge] at hg
 split at hg
 case h_2=>cases hg
 rename_i es hp1 h1
 simp only[Qm,Qe] at hg
 obtain⟨l,hl,rfl,rfl⟩:=hg
 have hown:=Qod hp (k:=0) h1
 have hcov:=Qoc h1
 obtain⟨T,rfl,hT,hsub,hpre,hrd,hgo⟩:=Qn8 h1
 have hrch:∀d∈Xw md ds,d.rch hp=d.rch (T hp):=fun d hd=>let ⟨e,he⟩:=hrdl d hd;QQQ (fun id e he=>hsub _ _ _ he) he
 refine⟨T,rfl,hT.mono Qgd,fun id hid=>?_,fun i hi y hy=>(hown i hi).2 y (by simpa using hy),fun hp2 hh=>?_⟩
 ·obtain⟨d,hd,hi⟩:=Qp.1 hid
  rcases hcov d hd with h|h3
  ·obtain⟨e,he⟩:=hrdl d h
   rw[hrch d h] at hi
   have:=QQK he id hi
   intro hn
   cases hl2:lk (T hp) id with
   |none=>exact this hl2
   |some e=>rw[hsub _ _ _ hl2] at hn;cases hn
  ·exact hpre id (h3 hp id hi)
 ·have hi2:∀id∈gM hp md ds,lk hp2 id=lk hp id:=fun id hi=>hh id (Qge id (Qgd id hi))
  have hag:∀id∈ds.flatMap (D.rch hp),lk (T hp2) id=lk (T hp) id:=fun id hi=>by
   by_cases hS:id∈gM hp md ds
   ·exact hT.same _ _ hi2 id hS
   ·rw[hT.out _ id hS,hT.out _ id hS];exact hh id hi
  rw[hge,(hgo hp2 hi2).2]
  simp only
  rw[Qgc (hp:=T hp) (fun d hd id hi=>by
   rw[hrd] at hd
   rw[←hrch d hd] at hi
   exact hag id (Qp.2 ⟨d,Qgb d hd,hi⟩)),hl]
  rfl
theorem QdD{hp0:qHp}{ds:List D}{S:Nat→Prop}:∀{outs:qSl}{n n':Nat}{hp hp':qHp},Yj hp0 ds n outs hp=some (n',hp')→(∀i∈outs.map (·.1),∀y,ds[i]?=some y→∀id∈y.own,S id)→
  n≤n'∧∃E,hp'=E++hp∧(∀p∈E,S p.1∨(n≤p.1∧p.1<n'))∧∀hq hpb,(∀id,S id→lk hq id=lk hp0 id)→Yj hq ds n outs hpb=some (n',E++hpb)
 |[],n,n',hp,hp',h,_=>by
  simp only[Yj,Qb,Qe] at h
  obtain⟨rfl,rfl⟩:=h
  exact⟨Qf _,[],rfl,by simp,fun _ _ _=>rfl⟩
 |(i,d)::l,n,n',hp,hp',h,hno=>by
  have hno2:∀j∈l.map (·.1),∀y,ds[j]?=some y→∀id∈y.own,S id:=fun j hj=>hno j (by simp at hj ⊢;exact .inr hj)
  have hno1:=hno i (by simp)
  simp only[Yj] at h
  split at h
  ·rename_i id len sz xs hds
   split at h
   case isFalse=>cases h
   rename_i hc
   obtain⟨g1,E,rfl,hE,hgo⟩:=QdD h hno2
   have hid:S id:=hno1 _ hds id (by simp [D.own])
   refine⟨g1,E++[(id,.arr sz xs)],by simp,fun p hp=>?_,fun hq hpb hh=>?_⟩
   ·rcases Qg.1 hp with hp|hp
    ·exact hE p hp
    ·simp only[Qn] at hp;subst hp;exact .inl hid
   ·have ha:Qar hq id=Qar hp0 id:=by simp only[Qar,hh id hid]
    simp only[Yj,hds]
    rw[ha,if_pos hc,hgo hq _ hh]
    simp
  ·rename_i id cs hds
   split at h
   case isFalse=>cases h
   rename_i hc
   obtain⟨r1,r2⟩:=QaX (f:=Q6) (fun n d=>Qbx) (ds:=cs) (n:=n)
   obtain⟨g1,E,rfl,hE,hgo⟩:=QdD h hno2
   have hid:S id:=hno1 _ hds id (by simp [D.own])
   refine⟨by omega,E++((id,.box (Xj Q6 n cs).1)::(Xj Q6 n cs).2.1),by simp,fun p hp=>?_,fun hq hpb hh=>?_⟩
   ·rcases Qg.1 hp with hp|hp
    ·exact (hE p hp).imp (fun h=>h) fun h=>⟨by omega,h.2⟩
    ·rcases Qh.1 hp with rfl|hp
     ·exact .inl hid
     ·have:=r2 p hp
      exact .inr ⟨by omega,by omega⟩
   ·simp only[Yj,hds]
    rw[if_pos hc,hgo hq _ hh]
    simp
  ·cases h
theorem Qoe{P:Program}{f:Nat}{ds:List D}{md:List Md}(hk:ZC P n hp f ds md (·=(d,hp'))):
  ∃T,hp'=T hp∧Loc (fun id=>id∈muD hp md ds∨(n≤id∧id<n+64)) T∧
  (∀id∈ds.flatMap (D.rch hp),lk hp id≠none)∧∀hp2,(∀id∈ds.flatMap (D.rch hp),lk hp2 id=lk hp id)→ZC P n hp2 f ds md (·=(d,T hp2)):=by
 unfold ZC kon at hk
 split at hk
 case h_2=>exact hk.elim
 rename_i q hg
 obtain⟨args,hp1⟩:=q
 obtain⟨T0,rfl,hT0,hpre,hno,hgo⟩:=QQW hg
 obtain⟨fz,r,outs,hfc,ha⟩:=hk
 simp only at ha
 split at ha
 case h_2=>exact ha.elim
 rename_i dh hac
 subst ha
 unfold Qas at hac
 split at hac
 case isFalse=>cases hac
 rename_i hcond
 have hout:∀i∈outs.map (·.1),∀y,ds[i]?=some y→∀id∈y.own,id∈muD hp md ds:=by rw[hcond.1];exact hno
 have hids:∀hp2,(∀id∈ds.flatMap (D.rch hp),lk hp2 id=lk hp id)→∀id,id∈muD hp md ds→lk hp2 id=lk hp id:=fun hp2 hh id hi=>hh id (Qge id hi)
 split at hac
 ·rename_i hflat
  split at hac
  case h_2=>cases hac
  rename_i n' hp'' htb
  split at hac
  case isFalse=>cases hac
  rename_i hle
  simp only[Qb,Qe] at hac
  obtain⟨rfl,rfl⟩:=hac
  obtain⟨hn1,E,rfl,hE,hgb⟩:=QdD (S:=fun id=>id∈muD hp md ds) htb hout
  have hr1:=(adopt_rng (n:=n) (d:=r)).1
  refine⟨fun hp=>E++((XI n r).2.1++T0 hp),rfl,Loc.comp (Loc.app fun p hp=>(hE p hp).imp (fun h=>h) fun h=>⟨by omega,by omega⟩) (Loc.comp (Loc.app fun p hp=>.inr ?_) (hT0.mono fun _ h=>.inl h)),hpre,fun hp2 hh=>?_⟩
  ·have:=adopt_rng.2 p hp;omega
  ·simp only[ZC,hgo hp2 hh,kon]
   refine⟨fz,r,outs,hfc,?_⟩
   simp only[Qas]
   rw[if_pos hcond,if_pos hflat,hgb hp2 _ (hids hp2 hh)]
   simp only
   rw[if_pos hle]
 ·rename_i hflat
  split at hac
  case isFalse=>cases hac
  rename_i hno
  split at hac
  case h_2=>cases hac
  rename_i n' hp'' htb
  split at hac
  case isFalse=>cases hac
  rename_i hle
  simp only[Qb,Qe] at hac
  obtain⟨rfl,rfl⟩:=hac
  obtain⟨hn1,E,rfl,hE,hgb⟩:=QdD (S:=fun id=>id∈muD hp md ds) htb hout
  have hr1:=(adopt_rng (n:=n) (d:=r)).1
  refine⟨fun hp=>E++((XI n r).2.1++Xd ((Xw md ds).flatMap D.ids) (T0 hp)),rfl,Loc.comp (Loc.app fun p hp=>(hE p hp).imp (fun h=>h) fun h=>⟨by omega,by omega⟩) (Loc.comp (Loc.app fun p hp=>.inr ?_) (Loc.comp (Loc.freeze fun id hid=>.inl ?_) (hT0.mono fun _ h=>.inl h))),hpre,fun hp2 hh=>?_⟩
  ·have:=adopt_rng.2 p hp;omega
  ·obtain⟨d,hd,hi⟩:=Qp.1 hid
   exact Qn9 d hd id hi
  ·simp only[ZC,hgo hp2 hh,kon]
   refine⟨fz,r,outs,hfc,?_⟩
   simp only[Qas]
   rw[if_pos hcond,if_neg hflat,if_pos hno,hgb hp2 _ (hids hp2 hh)]
   simp only
   rw[if_pos hle]
end
def Fp(n:Nat)(ck:Bool)(mu:List Nat)(id:Nat):Prop:=id∈mu∨(ck=true∧n≤id∧id<n+64)
theorem Qcl{sl:qSl}{g:D→List Nat}:∀{l:List X}{ds:List D},Q1 (ev sl) l=some ds→(l.flatMap fun x=>g (evL sl x))=ds.flatMap g
 |[],ds,h=>by simp only[Q1,Qb] at h;subst h;rfl
 |x::l,ds,h=>by
  simp only[Q1] at h
  split at h
  case h_2=>cases h
  rename_i d es hd hes
  simp only[Qb] at h
  subst h
  simp only[List.flatMap_cons,XJ hd,Qcl hes]
theorem Qof{sl:qSl}{hp:qHp}:∀{md:List Md}{l:List X}{ds:List D},Q1 (ev sl) l=some ds→muX sl hp md l=muD hp md ds
 |[],l,ds,h=>by
  have e1:muX sl hp [] l=l.flatMap fun x=>(evL sl x).ids:=by cases l<;>rfl
  have e2:muD hp [] ds=ds.flatMap D.ids:=by cases ds<;>rfl
  rw[e1,e2];exact Qcl h
 |m::md,[],ds,h=>by simp only[Q1,Qb] at h;subst h;cases m<;>rfl
 |m::md,x::l,ds,h=>by
  simp only[Q1] at h
  split at h
  case h_2=>cases h
  rename_i d es hd hes
  simp only[Qb] at h
  subst h
  have ih:=Qof (hp:=hp) (md:=md) hes
  cases m<;>simp only[muX,muD,XJ hd,ih]
theorem Qog{sl:qSl}{hp:qHp}:∀{md:List Md}{l:List X},∀id∈muX sl hp md l,id∈l.flatMap fun x=>(evL sl x).rch hp
 |[],l,id,h=>by
  have e1:muX sl hp [] l=l.flatMap fun x=>(evL sl x).ids:=by cases l<;>rfl
  rw[e1] at h
  obtain⟨x,hx,hi⟩:=Qp.1 h
  exact Qp.2 ⟨x,hx,Qck _ id hi⟩
 |m::md,[],id,h=>by cases m<;>simp [muX] at h
 |m::md,x::l,id,h=>by
  have ih:=Qog (sl:=sl) (hp:=hp) (md:=md) (l:=l) id
  rw[List.flatMap_cons,Qg]
  cases m<;>simp only[muX,Qg] at h
  case mp=>exact h.imp (fun h=>h) ih
  all_goals exact h.imp (Qck _ id) ih
theorem Qby{α:Type}{o:Option α}{f:α→Prop}(h:kon o f):∃a,o=some a∧f a:=by
 cases o
 ·exact h.elim
 ·exact⟨_,rfl,h⟩
theorem Qoh{P:Program}{n:Nat}{hp:qHp}{f:Nat}{ds:List D}{md:List Md}{K:D×qHp→Prop}(hk:ZC P n hp f ds md K):∃p,K p∧ZC P n hp f ds md (·=p):=by
 obtain⟨q,hq,fz,r,outs,hfc,ha⟩:=Qby hk
 obtain⟨p,hp,hK⟩:=Qby ha
 refine⟨p,hK,?_⟩
 simp only[ZC,hq,kon]
 exact⟨fz,r,outs,hfc,by simp only[hp]⟩
section
variable {P:Program} {n:Nat} {s s1:St} {op:LOp} {dst:Option Nat} {g:Option (Nat×Bool)}
theorem QQX{K:St→Prop}(hdet:op.det=true)(hk:Yc P n ⟨dst,op,g⟩ s K):∃d T,K ⟨Xe dst d s.sl,T s.hp,s.nx⟩∧Loc (Fp n op.ck (muI s.sl s.hp op)) T∧(∀id∈rdI s.sl s.hp op,lk s.hp id≠none)∧
  ∀sl2 hp2 nx2,(∀x∈op.xs,ev sl2 x=ev s.sl x)→(∀id∈rdI s.sl s.hp op,lk hp2 id=lk s.hp id)→Yc P n ⟨dst,op,g⟩ ⟨sl2,hp2,nx2⟩ (·=⟨Xe dst d sl2,T hp2,nx2⟩):=by
 obtain⟨sl,hp,nx⟩:=s
 have eff_case:(∀f l m,op≠.call f l m)→(∀x l,op≠.callv x l)→(∀x l,op≠.callm x l)→(∀g x,op≠.isnil g x)→(∀a x,op≠.stf a x)→∃d T,K ⟨Xe dst d sl,T hp,nx⟩∧Loc (Fp n op.ck (muI sl hp op)) T∧(∀id∈rdI sl hp op,lk hp id≠none)∧
  ∀sl2 hp2 nx2,(∀x∈op.xs,ev sl2 x=ev sl x)→(∀id∈rdI sl hp op,lk hp2 id=lk hp id)→Yc P n ⟨dst,op,g⟩ ⟨sl2,hp2,nx2⟩ (·=⟨Xe dst d sl2,T hp2,nx2⟩):=by
  intro h1 h2 h4 h3 h5
  have e:∀(sl:qSl) hp nx(K:St→Prop),Yc P n ⟨dst,op,g⟩ ⟨sl,hp,nx⟩ K=kon (eff n sl hp op) fun p=>K ⟨Xe dst p.1 sl,p.2,nx⟩:=by
   intro sl hp nx K
   unfold Yc
   cases op<;>first|rfl|exact absurd rfl (h1 _ _ _)|exact absurd rfl (h2 _ _)|exact absurd rfl (h4 _ _)|exact absurd rfl (h3 _ _)|exact absurd rfl (h5 _ _)
  rw[e] at hk
  obtain⟨⟨d,hp'⟩,he,hK⟩:=Qby hk
  obtain⟨T,rfl,hT,hp,hf⟩:=QQM he
  refine⟨d,T,hK,hT,hp,fun sl2 hp2 nx2 hx hh=>?_⟩
  rw[e,QQN hx,hf hp2 hh]
  rfl
 cases op with
 |call f l md=>
  simp only[Yc] at hk
  obtain⟨ds,hds,hc⟩:=Qby hk
  obtain⟨⟨d,hp'⟩,hK,hc⟩:=Qoh hc
  obtain⟨T,rfl,hT,hpre,hf⟩:=Qoe hc
  have e1:muI sl hp (.call f l md)=muD hp md ds:=Qof hds
  have e2:rdI sl hp (.call f l md)=ds.flatMap (D.rch hp):=Qcl hds
  refine⟨d,T,hK,?_,?_,fun sl2 hp2 nx2 hx hh=>?_⟩
  ·unfold Fp;rw[e1];simpa [LOp.ck] using hT
  ·rw[e2];exact hpre
  ·simp only[Yc]
   rw[Qaa (l:=l) (f:=ev sl2) (g:=ev sl) (fun x h=>hx x h),hds]
   rw[e2] at hh
   exact Qdm (fun p hp=>by rw[hp]) (hf hp2 hh)
 |callv x l=>
  simp only[Yc] at hk
  obtain⟨c,hc0,hk⟩:=Qby hk
  obtain⟨ds,hds,hc⟩:=Qby hk
  obtain⟨⟨d,hp'⟩,hK,hc⟩:=Qoh hc
  obtain⟨T,rfl,hT,hpre,hf⟩:=Qoe hc
  have hcap:YB (evL sl x)=c.2:=by
   cases hx:ev sl x with
   |none=>rw[hx] at hc0;cases hc0
   |some e=>
    rw[hx,Option.bind_some] at hc0
    rw[XJ hx]
    cases e<;>simp only[YH,Qb,reduceCtorEq] at hc0
    subst hc0
    rfl
  have e1:muI sl hp (.callv x l)=muD hp [] (ds++c.2):=by
   have e0:muD hp [] (ds++c.2)=(ds++c.2).flatMap D.ids:=by cases ds++c.2<;>rfl
   rw[e0,List.flatMap_append,←Qcl hds,←hcap];rfl
  have e2:rdI sl hp (.callv x l)=(ds++c.2).flatMap (D.rch hp):=by rw[List.flatMap_append,←Qcl hds,←hcap];rfl
  refine⟨d,T,hK,?_,?_,fun sl2 hp2 nx2 hx hh=>?_⟩
  ·unfold Fp;rw[e1];simpa [LOp.ck] using hT
  ·rw[e2];exact hpre
  ·simp only[Yc]
   rw[hx x (by simp [LOp.xs]),hc0,Qaa (f:=ev sl2) (g:=ev sl) (fun y h=>hx y (by simp [LOp.xs,h])),hds]
   rw[e2] at hh
   exact Qdm (fun p hp=>by rw[hp]) (hf hp2 hh)
 |isnil g x=>simp [LOp.det] at hdet
 |callm g x=>simp [LOp.det] at hdet
 |stf g x=>simp [LOp.det] at hdet
 |_=>exact eff_case (fun _ _ _=>by simp) (fun _ _=>by simp) (fun _ _=>by simp) (fun _ _=>by simp) (fun _ _=>by simp)
theorem QQY{li:LI}{sl sl2:qSl}(h:∀t∈li.reads,lk sl2 t=lk sl t):∀x∈li.op.xs,ev sl2 x=ev sl x:=by
 intro x hx
 cases x with
 |t t=>exact h t (List.mem_append_left _ (Qp.2 ⟨_,hx,by simp [X.slots]⟩))
 |k d=>rfl
theorem QQZ{sl:qSl}{hp:qHp}{op:LOp}:∀id∈muI sl hp op,id∈rdI sl hp op:=by
 have one:∀d:D,∀id∈d.ids,id∈d.rch hp:=by
  intro d id
  cases d<;>simp [D.ids,D.rch,D.rch1,D.ids0]
 intro id h
 cases op<;>simp only[muI,List.not_mem_nil,Qg,Qp] at h
 case store m a x=>simpa only[rdI] using h
 case app s b x y=>simp only[rdI,Qg];exact .inl h
 case cpy s x y=>simp only[rdI,Qg];exact .inl h
 case clr s x=>simpa only[rdI] using h
 case tk x=>simpa only[rdI] using h
 case pu a x=>simpa only[rdI,Qg] using h
 case buildSl s b z m ps=>simpa only[rdI,Qp] using h
 case call f l md=>
  simp only[rdI]
  exact Qog id h
 case callv x l=>
  simp only[rdI,Qg,Qp]
  rcases h with⟨x,hx,hi⟩|⟨x,hx,hi⟩
  ·exact .inl ⟨x,hx,one _ _ hi⟩
  ·exact .inr ⟨x,hx,one _ _ hi⟩
structure Fra(P:Program)(n:Nat)(li:LI)(s:St)(d:D)(T:qHp→qHp)(rd mu:List Nat):Prop where
 loc:Loc (Fp n li.op.ck mu) T
 pre:∀id∈rd,lk s.hp id≠none∧id∈rdI s.sl s.hp li.op
 mu:∀id∈mu,id∈rd∧id∈muI s.sl s.hp li.op
 go (sl2:qSl) (hp2:qHp) (nx2:Nat):(∀t∈li.reads,lk sl2 t=lk s.sl t)→(∀id∈rd,lk hp2 id=lk s.hp id)→YP P n li ⟨sl2,hp2,nx2⟩ (·=⟨Xe li.dst d sl2,T hp2,nx2⟩)
theorem QQ0{li:LI}{K:St→Prop}(hdet:li.op.det=true)(hk:YP P n li s K):∃d T rd mu,K ⟨Xe li.dst d s.sl,T s.hp,s.nx⟩∧Fra P n li s d T rd mu:=by
 obtain⟨dst,op,g⟩:=li
 have act:Yc P n ⟨dst,op,g⟩ s K→(∀(sl2:qSl)(hp2:qHp)(nx2:Nat)(K':St→Prop),(∀t∈LI.reads ⟨dst,op,g⟩,lk sl2 t=lk s.sl t)→Yc P n ⟨dst,op,g⟩ ⟨sl2,hp2,nx2⟩ K'→YP P n ⟨dst,op,g⟩ ⟨sl2,hp2,nx2⟩ K')→
   ∃d T rd mu,K ⟨Xe dst d s.sl,T s.hp,s.nx⟩∧Fra P n ⟨dst,op,g⟩ s d T rd mu:=fun hk hg=>by
  obtain⟨d,T,h1,h2,h3,h4⟩:=QQX hdet hk
  exact⟨d,T,_,_,h1,h2,fun id hid=>⟨h3 id hid,hid⟩,fun id hid=>⟨QQZ id hid,hid⟩,fun sl2 hp2 nx2 hs hh=>hg _ _ _ _ hs (h4 sl2 hp2 nx2 (QQY hs) hh)⟩
 have skip:K ⟨Xe dst .undef s.sl,s.hp,s.nx⟩→(∀(sl2:qSl)(hp2:qHp)(nx2:Nat)(K':St→Prop),(∀t∈LI.reads ⟨dst,op,g⟩,lk sl2 t=lk s.sl t)→K' ⟨Xe dst .undef sl2,hp2,nx2⟩→YP P n ⟨dst,op,g⟩ ⟨sl2,hp2,nx2⟩ K')→
   ∃d T rd mu,K ⟨Xe dst d s.sl,T s.hp,s.nx⟩∧Fra P n ⟨dst,op,g⟩ s d T rd mu:=fun hk hg=>
  ⟨.undef,fun l=>l,[],[],hk,Loc.id,by simp,by simp,fun sl2 hp2 nx2 hs _=>hg _ _ _ _ hs rfl⟩
 cases g with
 |none=>exact act hk fun sl2 hp2 nx2 K' _ h=>h
 |some tw=>
  obtain⟨t,w⟩:=tw
  have ht:t∈LI.reads ⟨dst,op,some (t,w)⟩:=by simp [LI.reads]
  have bc:∀{o:Option D}{p q r:Prop},Zo o p q r→(∃c:Bool,o=some (.bool c)∧(c=true→p)∧(c=false→q))∨(o=some .undef∧r):=by
   intro o p q r hb
   unfold Zo at hb
   split at hb
   ·exact .inl ⟨_,rfl,hb.1,hb.2⟩
   ·exact .inr ⟨rfl,hb⟩
   ·exact hb.elim
  cases w with
  |true=>
   simp only[YP] at hk
   rcases bc hk with⟨c,hc,h1,h2⟩|⟨hc,h0⟩
   ·cases c
    ·refine skip (h2 rfl) fun sl2 hp2 nx2 K' hs h=>?_
     simp only[YP,hs t ht,hc,Zo]
     simp [h]
    ·refine act (h1 rfl) fun sl2 hp2 nx2 K' hs h=>?_
     simp only[YP,hs t ht,hc,Zo]
     simp [h]
   ·refine skip h0 fun sl2 hp2 nx2 K' hs h=>?_
    simp only[YP,hs t ht,hc,Zo]
    exact h
  |false=>
   simp only[YP] at hk
   rcases bc hk with⟨c,hc,h1,h2⟩|⟨hc,h0⟩
   ·cases c
    ·refine act (h2 rfl) fun sl2 hp2 nx2 K' hs h=>?_
     simp only[YP,hs t ht,hc,Zo]
     simp [h]
    ·refine skip (h1 rfl) fun sl2 hp2 nx2 K' hs h=>?_
     simp only[YP,hs t ht,hc,Zo]
     simp [h]
   ·refine skip h0 fun sl2 hp2 nx2 K' hs h=>?_
    simp only[YP,hs t ht,hc,Zo]
    exact h
end
end Go.Am
