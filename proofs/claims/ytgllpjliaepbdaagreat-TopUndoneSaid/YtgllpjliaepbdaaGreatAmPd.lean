/- Contracts and what they rest on: AmPd. -/
import Derived.Test.YtgllpjliaepbdaaGreatAmPc
import Derived.Laws.Strings
import Derived.Laws.Concat
set_option linter.unusedVariables false
set_option linter.unusedSimpArgs false
set_option linter.unnecessarySimpa false
namespace Go.Am
open Go
section
variable {P:Program} {B:Base} {κ:Nat→Option KI} {hp hp':qHp} {F:Nat→Prop} {w:World} {sl:qSl} {tm:Array Value} {df:List Deferred} {n:Nat} {d:D}
def Src(P:Program)(w:World)(size m:Nat)(vy:Value)(news:List Value):Prop:=
 (Builtin.lenOf vy).run P w=.ok m w∧news.length=m*size∧(∀u∈news,u.oneCell'=true)∧(Builtin.firstCells size m vy).run P w=.ok news.toArray w∧(Builtin.firstCells size m vy).run P w.drew=.ok news.toArray w.drew∧∀k,k≤m→(Builtin.firstCells size k vy).run P w=.ok (news.take (k*size)).toArray w
section
variable {t u ty e e':TypeId} {i:TypeInfo} {z:Value} (ht:P.underlying t=some (.slice e)) (hu:P.underlying u=some (.slice e')) (hi:P.info? e=some i) (hz:i.zero=some z)
include ht hu hi
theorem Qhn{g sLen sCap m:Nat}{cur:Array Value}{t0:TypeId}(hg:w.heap[g]?=some (.cells cur t0 (0,0))){vy:Value}{news:List Value}(hs:Src P w i.size m vy news)(hroom:sLen+m≤sCap)(XM:sLen*i.size+news.length≤cur.size):
  (Builtin.append_ #[t,u] ty #[.slice (some ⟨g,0,none⟩) sLen sCap,vy]).run P w=
   .ok (.slice (some ⟨g,0,none⟩) (sLen+m) sCap) (w.setRow g (cur.toList.take (sLen*i.size)++news++cur.toList.drop (sLen*i.size+news.length)).toArray):=by
 obtain⟨h1,h2,h3,h4,_⟩:=hs
 have hst:=run_storeCells_at P g (sLen*i.size) t0 news 0 cur w hg (by simpa using XM) h3
 simp only[Nat.add_zero] at hst
 simp [Builtin.append_,run_underlying ht,run_underlying hu,sizeOf,typeInfo,hi,h1,hroom,h4,Zt,hst]
theorem Qho{vy:Value}{news:List Value}(hs:Src P w i.size 0 vy news):(Builtin.append_ #[t,u] ty #[.slice none 0 0,vy]).run P w=.ok (.slice none 0 0) w:=by
 obtain⟨h1,h2,h3,h4,_⟩:=hs
 simp [Builtin.append_,run_underlying ht,run_underlying hu,sizeOf,typeInfo,hi,h1,h4]
include hz in
theorem Qhp{base:Option Addr}{sLen sCap m:Nat}{olds:List Value}(ho:(Builtin.firstCells i.size sLen (.slice base sLen sCap)).run P w.drew=.ok olds.toArray w.drew){vy:Value}{news:List Value}(hs:Src P w i.size m vy news)
  (hg:sCap<sLen+m) (h63:((sLen+m:Nat):Int)≤9223372036854775807) (XM:Builtin.nextslicecap (sLen+m) sCap*i.bytes≤281474976710656):
  (Builtin.append_ #[t,u] ty #[.slice base sLen sCap,vy]).run P w=
   .ok (.slice (some ⟨w.heap.size,0,none⟩) (sLen+m) (grownCap w (sLen+m) sCap e))
    (w.drew.alloc (.cells (olds.toArray++news.toArray++Builtin.zeroCells z.cells (grownCap w (sLen+m) sCap e-(sLen+m))) e)):=by
 obtain⟨h1,h2,h3,_,h4,_⟩:=hs
 have hn:¬(sLen+m≤sCap):=by omega
 have h63':¬(9223372036854775807<((sLen:Int)+(m:Int))):=by omega
 have h48':¬(281474976710656<Builtin.nextslicecap (sLen+m) sCap*i.bytes):=by omega
 simp [Builtin.append_,run_underlying ht,run_underlying hu,sizeOf,typeInfo,zeroValue,hi,hz,h1,hn,h63',h48',Question.forced,h4,ho,newRow,grownCap]
 congr 2
 apply Array.ext'
 simp [Qx]
end
theorem Src.of_nil{size:Nat}{p:Option Addr}:Src P w size 0 (.slice p 0 0) []:=by
 cases p with
 |none=>exact⟨by simp [Builtin.lenOf],by simp,by simp,by simp [Builtin.firstCells],by simp [Builtin.firstCells],fun k _=>by simp [Builtin.firstCells]⟩
 |some a=>
  refine⟨by simp [Builtin.lenOf],by simp,by simp,by simp [Builtin.firstCells,loadCells,loadCellsFrom],by simp [Builtin.firstCells,loadCells,loadCellsFrom],fun k hk=>?_⟩
  obtain rfl:k=0:=by omega
  simp [Builtin.firstCells,loadCells,loadCellsFrom]
theorem Src.of_mem{size m b off cap:Nat}{us:List Value}(hM:Mem w b off us)(hl:us.length=m*size)(h1:∀u∈us,u.oneCell'=true):Src P w size m (.slice (some ⟨b,off,none⟩) m cap) us:=by
 refine⟨by simp [Builtin.lenOf],hl,h1,?_,?_,fun k hk=>?_⟩
 ·have:=run_loadCells_list (P:=P) w ⟨b,off,none⟩ us (fun j v hj=>by rw[Zt];exact hM j v hj)
  rw[hl] at this
  simp [Builtin.firstCells,this]
 ·have:=run_loadCells_list (P:=P) w.drew ⟨b,off,none⟩ us (fun j v hj=>by rw[Zt];exact hM j v hj)
  rw[hl] at this
  simp [Builtin.firstCells,this]
 ·have hkl:(us.take (k*size)).length=k*size:=by
   rw[Qo,hl]
   exact Nat.min_eq_left (Nat.mul_le_mul_right _ hk)
  have:=run_loadCells_list (P:=P) w ⟨b,off,none⟩ (us.take (k*size)) (fun j v hj=>by
   rw[Zt]
   rw[List.getElem?_take] at hj
   split at hj
   ·exact hM j v hj
   ·cases hj)
  rw[hkl] at this
  simp [Builtin.firstCells,this]
theorem Qhq(h:RH B κ hp F w){sz:Nat}{dy:D}{vy:Value}{ys:List D}(hv:MR w (Im B κ hp w) κ dy vy)(hr:rdS hp sz dy=some ys):
  ys.length≤QS∧∃us,PE w (Im B κ hp w) sz ys us∧Src P w sz ys.length vy us:=by
 have nilc:∀{vy:Value}{p:Option Addr},vy=.slice p 0 0→([]:List D).length≤QS∧∃us,PE w (Im B κ hp w) sz [] us∧Src P w sz ([]:List D).length vy us:=fun hv=>by
  subst hv;exact⟨Nat.zero_le _,[],by simp [PE],Src.of_nil⟩
 cases dy<;>simp only[rdS,reduceCtorEq] at hr
 case nl=>
  simp only[Qb] at hr;subst hr
  simp only[MR] at hv
  exact nilc hv
 case lst sz' xs=>
  split at hr
  ·rename_i hs
   subst hs
   simp only[Qb] at hr;subst hr
   simp only[MR,DR] at hv
   obtain⟨_,h1,hv⟩:=hv
   rcases hv with⟨⟨p,hv⟩,rfl⟩|⟨b,off,cap,us,rfl,_,_,_,hM,hP⟩
   ·exact nilc hv
   ·exact⟨h1,us,hP,Src.of_mem hM hP.length hP.one⟩
  ·cases hr
 case sl id lo len=>
  have key:∀(sz':Nat)(xs:List D),sz'=sz→lo+len≤xs.length→xs.length≤QS→((κ id=some (.nil sz')∧xs=[])∨∃b tot us,κ id=some (.arr b sz' tot)∧Mem w b 0 us∧PE w (Im B κ hp w) sz' xs us)→ys=(xs.drop lo).take len→
    ys.length≤QS∧∃us,PE w (Im B κ hp w) sz ys us∧Src P w sz ys.length vy us:=by
   intro sz' xs hs hl hmax hent hys
   subst hs;subst hys
   have hlen:((xs.drop lo).take len).length=len:=by simp;omega
   simp only[MR] at hv
   rcases hent with⟨hk,rfl⟩|⟨b,tot,us,hk,hM,hP⟩
   ·rw[hk] at hv
    rcases hv with⟨_,_,hv,rfl,rfl⟩|⟨_,_,_,_,_,hv,_⟩
    ·simpa using nilc hv
    ·cases hv
   ·rw[hk] at hv
    rcases hv with⟨_,hv,_⟩|⟨b',sz'',tot',off,cap,hv,rfl,h2,h3,h4,h5⟩
    ·cases hv
    ·simp only[Qb,KI.arr.injEq] at hv
     obtain⟨rfl,rfl,rfl⟩:=hv
     rw[hlen]
     refine⟨by omega,?_⟩
     by_cases h0:0<len∨lo=0
     ·have hoff:=h5 h0
      obtain⟨u1,u2,rfl,p1,p2⟩:=hP.take lo
      obtain⟨u3,u4,rfl,p3,p4⟩:=p2.take len
      have hm3:=(Mem.append.1 (Mem.append.1 hM).2).1
      have hl1:=p1.length
      rw[Qo,Nat.min_eq_left (by omega)] at hl1
      rw[hl1,Nat.zero_add,←hoff] at hm3
      have hl3:=p3.length
      rw[hlen] at hl3
      exact⟨u3,p3,Src.of_mem hm3 hl3 p3.one⟩
     ·have:len=0:=by omega
      subst this
      exact⟨[],by simp [PE],Src.of_mem Mem.nil (by simp) (by simp)⟩
  have key2:∀(sz':Nat)(xs:List D),xs.length≤QS→((κ id=some (.nil sz')∧xs=[])∨∃b tot us,κ id=some (.arr b sz' tot)∧Mem w b 0 us∧PE w (Im B κ hp w) sz' xs us)→
    (if sz'=sz then (if lo=0∧len=xs.length then some xs else if lo+len≤xs.length then some ((xs.drop lo).take len) else none) else none)=some ys→
    ys.length≤QS∧∃us,PE w (Im B κ hp w) sz ys us∧Src P w sz ys.length vy us:=by
   intro sz' xs hmax hent hr
   split at hr
   ·rename_i hs
    split at hr
    ·rename_i hc
     simp only[Qb] at hr
     exact key sz' xs hs (by omega) hmax hent (by rw[←hr,hc.1,hc.2];simp)
    ·split at hr
     ·simp only[Qb] at hr
      exact key sz' xs hs (by assumption) hmax hent hr.symm
     ·cases hr
   ·cases hr
  split at hr
  ·rename_i hl
   have hent:=h.ent id _ hl
   simp only[ER] at hent
   exact key2 _ _ hent.1 (hent.2.imp (fun h=>h) fun⟨b,tot,cur,ty,us,k1,_,_,k4,k5⟩=>⟨b,tot,us,k1,k4,k5⟩) hr
  ·rename_i hl
   have hent:=h.ent id _ hl
   simp only[ER] at hent
   exact key2 _ _ hent.1 (hent.2.imp (fun h=>h) fun⟨b,tot,us,k1,_,k4,k5⟩=>⟨b,tot,us,k1,k4,k5⟩) hr
  ·cases hr
theorem QeF{need old:Nat}{e:TypeId}(h:need≤QS):grownCap w need old e≤maxLen:=grownCap_le_maxLen w need old e (by simp only[QS] at h;simp only[maxLen];omega)
theorem Qns(h:RH B κ hp F w)(hs:RS B κ hp w sl tm)(hF:∀k,k<64→F (n+k)){o:Oper}{c:Call}(ho:o.op=.call c)(hc:c.callee=.builtin .append){t u:TypeId}(hat:c.argTypes.toList=[t,u]){xo yo:Operand}(ha:c.args.toList=[xo,yo])
  {e e':TypeId} (ht:P.underlying t=some (.slice e)) (hu:P.underlying u=some (.slice e')) {s:Nat} (hz:Xi P e=some s) {i:TypeInfo} (hi:P.info? e=some i) {z:Value} (hzz:i.zero=some z) (hzc:z.cells.size=s)
  {x y:X} (hx:cX xo=some x) (hy:cX yo=some y) (he:eff n sl hp (.app s i.bytes x y)=some (d,hp')):
  Res P B κ hp hp' (Fr F n) w ((execOp (Act.eval ⟨tm,df⟩) o).run P w) d:=by
 have hsz:i.size=s:=by simpa [Xi,hi] using hz
 have hat':c.argTypes=#[t,u]:=by apply Array.ext';simpa using hat
 have ha':c.args=#[xo,yo]:=by apply Array.ext';simpa using ha
 have hrun:(execOp (Act.eval ⟨tm,df⟩) o).run P w=((Builtin.append_ #[t,u] o.type #[Act.eval ⟨tm,df⟩ xo,Act.eval ⟨tm,df⟩ yo]).run P w).andThen fun v w'=>.ok (.value v) w':=by
  simp [execOp,ho,resolve,hc,ha',hat',invoke,builtin]
 rw[hrun]
 simp only[eff] at he
 cases hdx:ev sl x with
 |none=>simp [hdx] at he
 |some dx=>
  cases hyy:(ev sl y).bind (rdS hp s) with
  |none=>cases dx<;>simp [hdx,hyy] at he
  |some ys=>
   cases hdy:ev sl y with
   |none=>simp [hdy] at hyy
   |some dy=>
    simp only[hdy,Option.bind_some] at hyy
    have hvx:=Xd (df:=df) hs hx hdx
    have hvy:=Xd (df:=df) hs hy hdy
    obtain⟨hymax,us,hP,hsrc⟩:=Qhq (P:=P) h hvy hyy
    rw[←hsz] at hsrc
    --a new row
    have grow:∀(hp1:qHp)(base:Option Addr)(sLen sCap:Nat)(olds:List Value)(xs:List D),RH B κ hp1 F w→Nxt B κ κ hp hp1 w w→Act.eval ⟨tm,df⟩ xo=.slice base sLen sCap→PE w (Im B κ hp w) s xs olds→xs.length=sLen→
      (Builtin.firstCells i.size sLen (.slice base sLen sCap)).run P w.drew=.ok olds.toArray w.drew→sCap<sLen+ys.length→Ya (sLen+ys.length) i.bytes=true→d=.sl n 0 (sLen+ys.length)→hp'=up hp1 n (.arr s (xs++ys))→
      Res P B κ hp hp' (Fr F n) w (((Builtin.append_ #[t,u] o.type #[Act.eval ⟨tm,df⟩ xo,Act.eval ⟨tm,df⟩ yo]).run P w).andThen fun v w'=>.ok (.value v) w') d:=by
     intro hp1 base sLen sCap olds xs k1 k2 hvx hPx hxl hf hlt XM hd hh
     subst hd;subst hh
     obtain⟨f1,f2⟩:=QaA XM
     have hnx:Builtin.nextslicecap (sLen+ys.length) sCap*i.bytes≤281474976710656:=growslice_fits hlt f1
     rw[hvx,Qhp (ty:=o.type) ht hu hi hzz hf hsrc hlt (by simp only[QS] at f2;omega) hnx]
     simp only[Result.andThen_ok]
     have hge:=grownCap_ge w (sLen+ys.length) sCap e
     have hle:=QeF (w:=w) (old:=sCap) (e:=e) f2
     have hPxy:PE w (Im B κ hp1 w) s (xs++ys) (olds++us):=PE.append.2 ⟨_,_,rfl,PE.mono k2.keep _ _ _ hPx,PE.mono k2.keep _ _ _ hP⟩
     have hlo:=hPx.length
     have hlu:=hP.length
     refine QcU k1 hF (cur:=olds.toArray++us.toArray++Builtin.zeroCells z.cells (grownCap w (sLen+ys.length) sCap e-(sLen+ys.length))) (ty:=e) (w':=w.drew.alloc (.cells (olds.toArray++us.toArray++Builtin.zeroCells z.cells (grownCap w (sLen+ys.length) sCap e-(sLen+ys.length))) e)) rfl rfl rfl ⟨rfl,Nat.le_succ _⟩ (us:=olds++us) (fun j u hj=>?_) hPxy (by simp [hxl]) f2 hge hle ?_ rfl k2
     ·have hlt:=(Qp.1 hj).1
      rw[←Array.getElem?_toList]
      simp only[Array.toList_append]
      rw[Qz (by simpa using hlt)]
      exact hj
     ·simp only[Array.size_append,List.size_toArray,size_zeroCells,hzc,hlo,hlu,hxl,←Nat.add_mul]
      apply Nat.le_of_eq
      congr 1
      omega
    cases dx<;>simp only[hdx,hdy,Option.bind_some,hyy,reduceCtorEq] at he
    case nl=>
     split at he
     ·rename_i XM
      simp only[Qb,Qc] at he
      obtain⟨rfl,rfl⟩:=he
      simp only[MR] at hvx
      by_cases hy0:ys=[]
      ·subst hy0
       have hh:=h.newNil (m:=n) (F':=Fr F n) (hF 0 (by omega)) (Fr.ne (k:=0) (by omega)) s
       rw[hvx,Qho (ty:=o.type) ht hu hi hsrc]
       exact⟨_,_,_,.inl rfl,hh.1,hh.2,by simp only[MR];exact .inl ⟨s,Xe,by simp⟩⟩
      ·have hpos:0<ys.length:=by cases ys<;>simp at hy0 ⊢
       exact grow hp none 0 0 [] [] h (Nxt.refl _ _ _ _) hvx (by simp [PE]) rfl (by simp [Builtin.firstCells]) (by omega) (by simpa using XM) (by simp) (by simp)
     ·cases he
    case sl id lo len=>
     split at he
     ·rename_i sz' xs hl
      split at he
      ·rename_i hcond
       obtain⟨rfl,rfl,XM⟩:=hcond
       --the elements that stay
       obtain⟨xs',hxs',hlen,hd,hh⟩:∃xs',xs'=xs.take len∧xs'.length=len∧d=.sl n 0 (len+ys.length)∧hp'=up (rm hp id) n (.arr sz' (xs'++ys)):=by
        split at he
        ·rename_i hl
         simp only[Qb,Qc] at he
         exact⟨xs,by rw[hl];simp,hl.symm,he.1.symm,he.2.symm⟩
        ·split at he
         ·rename_i hl
          simp only[Qb,Qc] at he
          exact⟨xs.take len,rfl,by simp;omega,he.1.symm,he.2.symm⟩
         ·cases he
       have hlx:len≤xs.length:=by rw[hxs'] at hlen;simp at hlen;omega
       have hent:=h.ent id _ hl
       simp only[ER] at hent
       obtain⟨k1,k2⟩:=h.forget id
       simp only[MR] at hvx
       rcases hent with⟨hmax,⟨hk,rfl⟩|⟨b,tot,cur,ty0,vs,hk,hg,htot,hM,hPx⟩⟩
       ·rw[hk] at hvx
        rcases hvx with⟨_,_,hvx,_,rfl⟩|⟨_,_,_,_,_,hvx,_⟩
        ·simp at hxs'
         subst hxs'
         by_cases hy0:ys=[]
         ·subst hy0
          have hh2:=k1.newNil (m:=n) (F':=Fr F n) (hF 0 (by omega)) (Fr.ne (k:=0) (by omega)) sz'
          rw[hvx,Qho (ty:=o.type) ht hu hi hsrc]
          subst hd;subst hh
          exact⟨_,_,_,.inl rfl,hh2.1,k2.trans hh2.2,by simp only[MR];exact .inl ⟨sz',Xe,by simp⟩⟩
         ·have hpos:0<ys.length:=by cases ys<;>simp at hy0 ⊢
          exact grow (rm hp id) none 0 0 [] [] k1 k2 hvx (by simp [PE]) rfl (by simp [Builtin.firstCells]) (by omega) XM hd hh
        ·cases hvx
       ·rw[hk] at hvx
        rcases hvx with⟨_,hvx,_⟩|⟨b',sz'',tot',off,cap,hvx,hv,g1,g2,g3,g4⟩
        ·cases hvx
        ·simp only[Qb,KI.arr.injEq] at hvx
         obtain⟨rfl,rfl,rfl⟩:=hvx
         have hoff:off=0:=by simpa using g4
         subst hoff
         obtain⟨u1,u2,rfl,p1,p2⟩:=hPx.take len
         rw[←hxs'] at p1
         have hM1:=(Mem.append.1 hM).1
         have hl1:=p1.length
         rw[hlen] at hl1
         by_cases hroom:len+ys.length≤cap
         ·have hle:(len+ys.length)*sz'≤cur.size:=by
           have:=Nat.mul_le_mul_right sz' hroom;omega
          have hlu:=hP.length
          rw[Nat.add_mul] at hle
          rw[hv,Qhn (ty:=o.type) ht hu hi hg hsrc hroom (by rw[hsz,hlu];exact hle)]
          simp only[Result.andThen_ok]
          subst hd;subst hh
          rw[hsz]
          have hob:OB κ hp w id b:=⟨_,_,hl,rfl,hk,.inl rfl⟩
          have hst:=QaB w b (cur.toList.take (len*sz')++us++cur.toList.drop (len*sz'+us.length)).toArray hg (by simp only[List.size_toArray,Qj,Qo,List.length_drop,Array.length_toList];omega)
          obtain⟨j1,j2⟩:=h.move (F':=Fr F n) hob hst (ki:=.arr b sz' tot) rfl (m:=n) (hF 0 (by omega)) (Fr.ne (k:=0) (by omega)) (ent:=.arr sz' (xs'++ys)) (fun keep=>by
           simp only[ER]
           refine⟨by have:=(QaA XM).2;simp [hlen];omega,.inr ⟨b,tot,_,ty0,u1++us,Xe,setRow_heap w b cur _ ty0 _ hg,?_,?_,?_⟩⟩
           ·simp only[List.size_toArray,Qj,Qo,List.length_drop,Array.length_toList,hlu];omega
           ·refine Mem.set (setRow_heap w b cur _ ty0 _ hg) (fun j uu hj=>?_)
            have e0:cur.toList.take (len*sz')=u1:=by
             apply List.ext_getElem?
             intro k
             rw[List.getElem?_take]
             by_cases hk:k<len*sz'
             ·rw[if_pos hk]
              have:=Mem.cells hg hM1 k _ (Qn (by omega))
              rw[Qn (by omega:k<u1.length)]
              simpa using this
             ·rw[if_neg hk,List.getElem?_eq_none (by omega)]
            rw[e0]
            have hlt:=(Qp.1 hj).1
            simp only[List.getElem?_toArray]
            rw[Qz hlt]
            exact hj
           ·exact PE.append.2 ⟨_,_,rfl,PE.mono keep _ _ _ p1,PE.mono keep _ _ _ hP⟩)
          exact⟨_,_,_,.inl rfl,j1,j2,by simp only[MR];exact .inr ⟨b,sz',tot,0,cap,Xe,by simp;exact⟨hroom,g2,by omega⟩⟩⟩
         ·have hf:(Builtin.firstCells i.size len (.slice (some ⟨b,0,none⟩) len cap)).run P w.drew=.ok u1.toArray w.drew:=by
           have:=run_loadCells_list (P:=P) w.drew ⟨b,0,none⟩ u1 (fun j v hj=>by rw[Zt];exact hM1 j v hj)
           rw[hl1] at this
           simp [Builtin.firstCells,hsz,this]
          exact grow (rm hp id) _ len cap u1 xs' k1 k2 hv p1 hlen hf (by omega) XM hd hh
      ·cases he
     ·cases he
theorem Qnt{A B N:List Value}{o k j:Nat}(hAB:∀i,i<B.length→A[i]?=B[i]?)(hk:N.length=k)(hB:o+k≤B.length)(hA:B.length≤A.length)(hj:j<B.length):(A.take o++N++A.drop (o+k))[j]?=(B.take o++N++B.drop (o+k))[j]?:=by
 simp only[Qx]
 have la:(A.take o).length=o:=by rw[Qo];omega
 have lb:(B.take o).length=o:=by rw[Qo];omega
 rcases Nat.lt_or_ge j o with c1|c1
 ·rw[Qz (by omega),Qz (by omega),List.getElem?_take,List.getElem?_take,if_pos c1,if_pos c1,hAB j hj]
 ·rw[QE (l₁:=A.take o) (by omega),QE (l₁:=B.take o) (by omega),la,lb]
  rcases Nat.lt_or_ge (j-o) k with c2|c2
  ·rw[Qz (by omega),Qz (by omega)]
  ·rw[QE (l₁:=N) (by omega),QE (l₁:=N) (by omega),hk,List.getElem?_drop,List.getElem?_drop]
   exact hAB _ (by omega)
theorem Qnu(h:RH B κ hp F w)(hs:RS B κ hp w sl tm){o:Oper}{c:Call}(ho:o.op=.call c)(hc:c.callee=.builtin .copy){t u:TypeId}(hat:c.argTypes.toList=[t,u]){xo yo:Operand}(ha:c.args.toList=[xo,yo])
  {e:TypeId} (ht:P.underlying t=some (.slice e)) {s:Nat} (hz:Xi P e=some s)
  {x y:X} (hx:cX xo=some x) (hy:cX yo=some y) (he:eff n sl hp (.cpy s x y)=some (d,hp')):
  Res P B κ hp hp' (Fr F n) w ((execOp (Act.eval ⟨tm,df⟩) o).run P w) d:=by
 have hsz:(sizeOf e).run P w=.ok s w:=by
  simp only[Xi,Qi] at hz
  obtain⟨i,hi,rfl⟩:=hz
  simp [sizeOf,typeInfo,hi]
 have hat':c.argTypes=#[t,u]:=by apply Array.ext';simpa using hat
 have ha':c.args=#[xo,yo]:=by apply Array.ext';simpa using ha
 have hrun:(execOp (Act.eval ⟨tm,df⟩) o).run P w=((Builtin.copy_ #[t,u] o.type #[Act.eval ⟨tm,df⟩ xo,Act.eval ⟨tm,df⟩ yo]).run P w).andThen fun v w'=>.ok (.value v) w':=by
  simp [execOp,ho,resolve,hc,ha',hat',invoke,builtin]
 rw[hrun]
 simp only[eff] at he
 split at he
 case h_2=>cases he
 rename_i id lo len ys hdx hyy
 split at he
 case h_2=>cases he
 rename_i sz' xs hl
 split at he
 case isFalse=>cases he
 rename_i hcond
 obtain⟨rfl,hlen⟩:=hcond
 simp only[Qb,Qc] at he
 obtain⟨rfl,rfl⟩:=he
 cases hdy:ev sl y with
 |none=>simp [hdy] at hyy
 |some dy=>
  simp only[hdy,Option.bind_some] at hyy
  have hvx:=Xd (df:=df) hs hx hdx
  have hvy:=Xd (df:=df) hs hy hdy
  obtain⟨hymax,us,hP,q1,q2,q3,_,_,q4⟩:=Qhq (P:=P) h hvy hyy
  have hfc:=q4 (min ys.length len) (Nat.min_le_left _ _)
  have hent:=h.ent id _ hl
  simp only[ER] at hent
  have hnl:(us.take (min ys.length len*sz')).length=min ys.length len*sz':=by
   rw[Qo,q2]
   exact Nat.min_eq_left (Nat.mul_le_mul_right _ (Nat.min_le_left _ _))
  have htk:(ys.take (min ys.length len)).length=min ys.length len:=by rw[Qo];omega
  obtain⟨n1,n2,hn12,hPn,_⟩:=hP.take (min ys.length len)
  have hn1:n1=us.take (min ys.length len*sz'):=by
   rw[hn12,List.take_left']
   rw[hPn.length,htk]
  rw[hn1] at hPn
  simp only[MR] at hvx
  generalize hN:min ys.length len=N at*
  have hNl:N≤len:=by omega
  rcases hent with⟨hmax,⟨hk,rfl⟩|⟨b,tot,cur,ty0,vs,hk,hg,htot,hM,hPx⟩⟩
  ·rw[hk] at hvx
   rcases hvx with⟨_,_,hvx,rfl,rfl⟩|⟨_,_,_,_,_,hvx,_⟩
   ·obtain rfl:N=0:=by omega
    have hr:(Builtin.copy_ #[t,u] o.type #[Act.eval ⟨tm,df⟩ xo,Act.eval ⟨tm,df⟩ yo]).run P w=.ok (.int .i64 0) w:=by
     have hm:Nat.min ys.length 0=0:=by simp
     rw[hvx]
     simp [Builtin.copy_,run_underlying ht,q1,hsz,hm,hfc,goInt]
    rw[hr]
    simp only[Result.andThen_ok]
    have he0:up hp id (.arr sz' (XQ [] 0 (ys.take 0)))=up hp id (.arr sz' ([]:List D)):=by simp [XQ]
    rw[he0]
    have hid:∀i,lk (up hp id (.arr sz' ([]:List D))) i=lk hp i:=fun i=>by
     rw[Xw];split
     ·rename_i hi;subst hi;exact hl.symm
     ·rfl
    have hob:∀i b,OB κ (up hp id (.arr sz' ([]:List D))) w i b↔OB κ hp w i b:=fun i b=>by simp only[OB,hid]
    obtain⟨k1,k2⟩:=h.next (F':=F) (hp':=up hp id (.arr sz' ([]:List D))) (w':=w) (κ':=κ) (fun _ _ h=>h) (Stp.refl _ _) (fun b ⟨i,ho⟩=>.inl ⟨i,(hob _ _).1 ho⟩) h.fr (fun b ⟨i,ho⟩=>(h.own b ⟨i,(hob _ _).1 ho⟩).2) (fun _ i e he=>.inl ⟨by rw[hid] at he;exact he,fun _ _ _ _ _=>rfl⟩) (fun i i' b h1 h2=>h.inj i i' b ((hob _ _).1 h1) ((hob _ _).1 h2))
    exact⟨κ,_,w,.inl rfl,k1.same Fr.sub,k2,by simp [MR]⟩
   ·cases hvx
  ·rw[hk] at hvx
   rcases hvx with⟨_,hvx,_⟩|⟨b',sz'',tot',off,cap,hvx,hv,g1,g2,g3,g4⟩
   ·cases hvx
   ·simp only[Qb,KI.arr.injEq] at hvx
    obtain⟨rfl,rfl,rfl⟩:=hvx
    have hvl:=hPx.length
    have hb1:off+N*sz'≤cur.size:=by
     have:=Nat.mul_le_mul_right sz' (show N≤cap by omega)
     omega
    have hst0:=run_storeCells_at P b off ty0 (us.take (N*sz')) 0 cur w hg (by rw[hnl];simpa using hb1) (fun v hv=>q3 v (Qw hv))
    simp only[Nat.add_zero] at hst0
    have hr:(Builtin.copy_ #[t,u] o.type #[Act.eval ⟨tm,df⟩ xo,Act.eval ⟨tm,df⟩ yo]).run P w=.ok (.int .i64 N) (w.setRow b (cur.toList.take off++us.take (N*sz')++cur.toList.drop (off+(us.take (N*sz')).length)).toArray):=by
     have hm:Nat.min ys.length len=N:=hN
     rw[hv]
     simp [Builtin.copy_,run_underlying ht,q1,hsz,hm,hfc,goInt,hst0]
    rw[hr]
    simp only[Result.andThen_ok]
    rw[hnl]
    have hst:=QaB w b (cur.toList.take off++us.take (N*sz')++cur.toList.drop (off+N*sz')).toArray hg (by simp only[List.size_toArray,Qj,Qo,List.length_drop,Array.length_toList,hnl];omega)
    have hob:OB κ hp w id b:=⟨_,_,hl,rfl,hk,.inl rfl⟩
    have hoff:0<N→off=lo*sz':=fun h0=>g4 (.inl (by omega))
    obtain⟨j1,j2⟩:=h.change (F':=Fr F n) hob hst Fr.sub (ent:=.arr sz' (XQ xs lo (ys.take N))) (fun keep=>by
     simp only[ER]
     have hsl:(XQ xs lo (ys.take N)).length=xs.length:=by
      simp only[XQ,Qj,Qo,List.length_drop];omega
     refine⟨by rw[hsl];exact hmax,.inr ⟨b,tot,_,ty0,vs.take (lo*sz')++us.take (N*sz')++vs.drop ((lo+N)*sz'),hk,setRow_heap w b cur _ ty0 _ hg,?_,?_,?_⟩⟩
     ·simp only[List.size_toArray,Qj,Qo,List.length_drop,Array.length_toList,hnl];omega
     ·refine Mem.set (setRow_heap w b cur _ ty0 _ hg) fun j uu hj=>?_
      have hcv:∀k,k<vs.length→cur.toList[k]?=vs[k]?:=fun k hk=>by
       have:=Mem.cells hg hM k _ (Qn hk)
       rw[Qn hk]
       simpa using this
      simp only[List.getElem?_toArray]
      by_cases h0:0<N
      ·have ho:=hoff h0
       have e1:(lo+N)*sz'=off+N*sz':=by rw[Nat.add_mul,ho]
       have hle:off+N*sz'≤vs.length:=by
        rw[←e1,hvl]
        exact Nat.mul_le_mul_right _ (by omega)
       rw[e1,←ho] at hj
       rw[←hj]
       have hlt:=(Qp.1 hj).1
       rw[Qj,Qj,Qo,List.length_drop,hnl,Nat.min_eq_left (by omega)] at hlt
       have hvc:vs.length≤cur.toList.length:=by
        have ecur:cur.toList.length=cur.size:=Array.length_toList
        rcases Nat.lt_or_ge 0 vs.length with c|c
        ·have:=Mem.le hg hM c
         omega
        ·omega
       exact Qnt hcv hnl hle hvc (by omega)
      ·obtain rfl:N=0:=by omega
       simp only[Nat.zero_mul,List.take_zero,Nat.add_zero,List.append_nil,List.take_append_drop] at hj ⊢
       have hlt:=(Qp.1 hj).1
       rw[hcv j hlt];exact hj
     ·obtain⟨a1,a2,rfl,p1,p2⟩:=hPx.take lo
      obtain⟨c1,c2,hc12,p3,p4⟩:=hPx.take (lo+N)
      have e1:(a1++a2).take (lo*sz')=a1:=by rw[List.take_left'];rw[p1.length,Qo];congr 1;omega
      have e2:(a1++a2).drop ((lo+N)*sz')=c2:=by
       rw[hc12,List.drop_left']
       rw[p3.length,Qo];congr 1;omega
      rw[e1,e2]
      have e3:XQ xs lo (ys.take N)=xs.take lo++ys.take N++xs.drop (lo+N):=by simp only[XQ,htk]
      have hPE:=PE.append.2 ⟨_,_,rfl,PE.append.2 ⟨_,_,rfl,PE.mono keep _ _ _ p1,PE.mono keep _ _ _ hPn⟩,PE.mono keep _ _ _ p4⟩
      rw[←e3] at hPE
      exact hPE)
    exact⟨κ,_,_,.inl rfl,j1,j2,by simp [MR]⟩
end
end Go.Am
namespace Go.Am
open Go
section
variable {P:Program} {B:Base} {κ:Nat→Option KI} {hp hp':qHp} {F:Nat→Prop} {w:World} {sl:qSl} {tm:Array Value} {df:List Deferred} {n:Nat} {d:D}
theorem J1{α:Type}{l:List α}{i j:Nat}{a b:α}(h:(l.set i a)[j]?=some b):(i=j∧b=a)∨(i≠j∧l[j]?=some b):=by
 rw[List.getElem?_set] at h
 split at h
 ·rename_i hij
  split at h
  ·simp only[Qb] at h;exact .inl ⟨hij,h.symm⟩
  ·cases h
 ·rename_i hij;exact .inr ⟨hij,h⟩
theorem RH.gather{F':Nat→Prop}{w':World}(h:RH B κ hp F w){S:Nat→Prop}{m:Nat}(hm:F m)(hn:∀id,F' id→F id∧id≠m){b:Nat}{ent:Ent}{ki:KI}(hki:ki.blk=some b)
  (h1:lk hp' m=some ent) (h2:∀id,id≠m→∀e,lk hp' id=some e→¬S id∧lk hp id=some e) (hst:Stp (·=b) w w')
  (hb:(b=w.heap.size∧b<w'.heap.size)∨∃i,S i∧OB κ hp w i b) (hin:∀c,InB w' ent ki c→c≠b∧∃i,S i∧OB κ hp w i c)
  (her:Keep w w' (Im B κ hp w) (Im B (Xf κ m ki) hp' w')→ER w' (Im B (Xf κ m ki) hp' w') (Xf κ m ki) m ent):
  RH B (Xf κ m ki) hp' F' w'∧Nxt B κ (Xf κ m ki) hp hp' w w':=by
 have hlt:∀id c,OB κ hp w id c→c<w.heap.size:=fun id c ho=>(h.own c ⟨id,ho⟩).2
 have nb:∀id c,¬S id→OB κ hp w id c→c≠b:=by
  rintro id c hs ho rfl
  rcases hb with⟨e,_⟩|⟨i,hi,ho2⟩
  ·have:=hlt _ _ ho;omega
  ·exact hs (h.inj _ _ _ ho ho2▸hi)
 have hob:∀id c,OB (Xf κ m ki) hp' w' id c→(id=m∧(c=b∨(c≠b∧∃i,S i∧OB κ hp w i c)))∨(id≠m∧¬S id∧OB κ hp w id c∧c≠b):=by
  rintro id c ⟨e,k,g1,g2,g3,g4⟩
  by_cases e1:id=m
  ·subst e1
   rw[h1] at g1;cases g1
   rw[Xe] at g3;cases g3
   refine .inl ⟨rfl,?_⟩
   rcases g4 with g4|g4
   ·rw[hki] at g4;cases g4;exact .inl rfl
   ·exact .inr (hin _ g4)
  ·obtain⟨hs,g1⟩:=h2 id e1 e g1
   rw[XS e1] at g3
   have ho:OB κ hp w id c:=⟨_,_,g1,g2,g3,g4.congr fun b0 hb0=>by
    have ho0:OB κ hp w id b0:=⟨_,_,g1,g2,g3,.inl hb0⟩
    exact hst.block b0 (hlt _ _ ho0) (nb _ _ hs ho0)⟩
   exact .inr ⟨e1,hs,ho,nb _ _ hs ho⟩
 refine h.next (h.kle hm ki) (hst.mono fun x hx hxb=>?_) (fun c ⟨id,ho⟩=>?_) (fun id hi=>?_) (fun c ⟨id,ho⟩=>?_) (fun keep id e he=>?_) (fun id id' c o1 o2=>?_)
 ·subst hxb
  rcases hb with⟨e,_⟩|⟨i,_,ho⟩
  ·omega
  ·exact⟨i,ho⟩
 ·rcases hob id c ho with⟨_,rfl|⟨_,i,_,hi⟩⟩|⟨_,_,hi,_⟩
  ·rcases hb with⟨e,_⟩|⟨i,_,ho⟩
   ·exact .inr (by omega)
   ·exact .inl ⟨i,ho⟩
  ·exact .inl ⟨i,hi⟩
  ·exact .inl ⟨id,hi⟩
 ·rw[XS (hn id hi).2];exact h.fr id (hn id hi).1
 ·rcases hob id c ho with⟨_,rfl|⟨_,i,_,hi⟩⟩|⟨_,_,hi,_⟩
  ·rcases hb with⟨_,e⟩|⟨i,_,ho⟩
   ·exact e
   ·exact QI (hlt _ _ ho) hst.size
  ·exact QI (hlt _ _ hi) hst.size
  ·exact QI (hlt _ _ hi) hst.size
 ·by_cases e1:id=m
  ·subst e1
   rw[h1] at he;cases he
   exact .inr (her keep)
  ·obtain⟨hs,g1⟩:=h2 id e1 e he
   refine .inl ⟨g1,fun ho q c hq hc=>?_⟩
   have ho0:OB κ hp w id c:=⟨_,_,g1,ho,hq,hc⟩
   exact hst.block c (hlt _ _ ho0) (nb _ _ hs ho0)
 ·rcases hob _ _ o1 with⟨rfl,a⟩|⟨a1,a2,a3,a4⟩<;>rcases hob _ _ o2 with⟨rfl,b'⟩|⟨b1,b2,b3,b4⟩
  ·rfl
  ·rcases a with a|⟨_,i,hi,a⟩
   ·exact absurd a b4
   ·exact absurd (h.inj _ _ _ a b3▸hi) b2
  ·rcases b' with b'|⟨_,i,hi,b'⟩
   ·exact absurd b' a4
   ·exact absurd (h.inj _ _ _ b' a3▸hi) a2
  ·exact h.inj _ _ _ a3 b3
theorem RH.link{F':Nat→Prop}(h:RH B κ hp F w){m:Nat}(hm:F m)(hn:∀id,F' id→F id∧id≠m)(j:Nat):RH B (Xf κ m (.nil 0)) (up hp m (.lnk j)) F' w∧Nxt B κ (Xf κ m (.nil 0)) hp (up hp m (.lnk j)) w w:=by
 have hob:∀id b,OB (Xf κ m (.nil 0)) (up hp m (.lnk j)) w id b→id≠m∧OB κ hp w id b:=by
  rintro id b ⟨e,k,h1,h2,h3,h4⟩
  rw[Xw] at h1
  by_cases e:id=m
  ·subst e;rw[if_pos rfl] at h1;cases h1;cases h2
  ·rw[if_neg e] at h1;rw[XS e] at h3;exact⟨e,_,_,h1,h2,h3,h4⟩
 refine h.next (h.kle hm _) (Stp.refl _ _) (fun b ⟨id,ho⟩=>.inl ⟨id,(hob id b ho).2⟩) (fun id hi=>?_) (fun b ⟨id,ho⟩=>(h.own b ⟨id,(hob id b ho).2⟩).2) (fun _ id e he=>?_) (fun id id' b h1 h2=>h.inj id id' b (hob _ _ h1).2 (hob _ _ h2).2)
 ·rw[XS (hn id hi).2];exact h.fr id (hn id hi).1
 ·rw[Xw] at he
  by_cases e:id=m
  ·subst e
   simp only[if_true,Qb] at he
   subst he
   exact .inr (by simp only[ER];exact Xe)
  ·rw[if_neg e] at he;exact .inl ⟨he,fun _ _ _ _ _=>rfl⟩
theorem RH.fold(h:RH B κ hp F w){id m sz i:Nat}{l:List (Option (List D))}{xs:List D}(hl:lk hp id=some (.nst sz l (some (i,m,xs.length))))(hm:lk hp m=some (.arr sz xs)):
  RH B κ (up (rm hp m) id (.nst sz (l.set i (some xs)) none)) F w∧Nxt B κ κ hp (up (rm hp m) id (.nst sz (l.set i (some xs)) none)) w w:=by
 have hne:m≠id:=fun e=>by rw[e,hl] at hm;cases hm
 have hent:=h.ent id _ hl
 simp only[ER] at hent
 obtain⟨hmx,hmo,b,tot,cur,ty,hk,hg,h1,h2,h3,h4⟩:=hent
 obtain⟨hli,b',tot',cur',ty',c,t2,cap,y1,y2,y3,y4,y5,y6,y7⟩:=hmo i m _ rfl
 rw[hk] at y1
 simp only[Qb,KI.arr.injEq] at y1
 obtain⟨rfl,_,rfl⟩:=y1
 rw[hg] at y2
 simp only[Qb,Obj.cells.injEq] at y2
 obtain⟨rfl,rfl,_⟩:=y2
 have hentm:=h.ent m _ hm
 simp only[ER] at hentm
 obtain⟨hmax,hentm⟩:=hentm
 rcases hentm with⟨r1,_⟩|⟨c',t3,cur2,ty2,us,r1,r2,r3,r4,r5⟩
 ·rw[y3] at r1;cases r1
 rw[y3] at r1
 simp only[Qb,KI.arr.injEq] at r1
 obtain⟨rfl,_,rfl⟩:=r1
 have hobb:OB κ hp w id b:=⟨_,_,hl,rfl,hk,.inl rfl⟩
 have hobc:OB κ hp w m c:=⟨_,_,hm,rfl,y3,.inl rfl⟩
 have hcb:c≠b:=fun e=>hne (h.inj _ _ _ (by rw[←e];exact hobc) hobb)
 have hdr:DR w (Im B κ hp w) (.arr sz xs) (Value.slice (some ⟨c,0,none⟩) xs.length cap) [c]:=by
  simp only[DR]
  exact⟨hmax,.inr ⟨c,cap,cur2,ty2,us,rfl,rfl,r2,y5,y6,by omega,r4,r5⟩⟩
 have hob:∀id' x,OB κ (up (rm hp m) id (.nst sz (l.set i (some xs)) none)) w id' x→id'≠m∧((id'=id∧x=c)∨OB κ hp w id' x):=by
  rintro id' x ⟨e,k,g1,g2,g3,g4⟩
  rw[Xw] at g1
  by_cases e1:id'=id
  ·subst e1
   rw[if_pos rfl] at g1
   cases g1
   rw[hk] at g3
   cases g3
   refine⟨fun e=>hne e.symm,?_⟩
   rcases g4 with g4|g4
   ·exact .inr ⟨_,_,hl,rfl,hk,.inl g4⟩
   ·unfold InB at g4
    obtain⟨cur',ty',j,ys,p,q,q1,q2,q3⟩:=g4
    rw[hg] at q1
    simp only[Qb,Obj.cells.injEq] at q1
    obtain⟨rfl,rfl,_⟩:=q1
    rcases J1 q2 with⟨rfl,_⟩|⟨_,q2⟩
    ·rw[y4] at q3
     simp only[Qb,Value.slice.injEq,Addr.mk.injEq,and_true] at q3
     exact .inl ⟨rfl,q3.1.symm⟩
    ·exact .inr ⟨_,_,hl,rfl,hk,.inr ⟨cur,ty,j,ys,p,q,hg,q2,q3⟩⟩
  ·rw[if_neg e1,Yo] at g1
   split at g1
   ·cases g1
   ·rename_i e2
    exact⟨e2,.inr ⟨_,_,g1,g2,g3,g4⟩⟩
 have hob1:∀id' x,OB κ (up (rm hp m) id (.nst sz (l.set i (some xs)) none)) w id' x→Zz κ hp w x:=by
  intro id' x hoc
  rcases (hob id' x hoc).2 with⟨_,rfl⟩|hc
  ·exact⟨m,hobc⟩
  ·exact⟨id',hc⟩
 refine h.next (fun _ _ h=>h) (Stp.refl _ _) (fun x ⟨id',hoc⟩=>.inl (hob1 id' x hoc)) h.fr (fun x ⟨id',hoc⟩=>(h.own x (hob1 id' x hoc)).2) (fun keep id' e' he'=>?_) (fun id1 id2 x o1 o2=>?_)
 ·rw[Xw] at he'
  by_cases e1:id'=id
  ·subst e1
   rw[if_pos rfl] at he'
   cases he'
   refine .inr ?_
   simp only[ER]
   refine⟨by simpa using hmx,(fun _ _ _ h=>by cases h),b,tot,cur,ty,hk,hg,h1,by simpa using h2,fun j ys hj=>?_,fun j1 j2 ys zs x p q r s g1 g2 c1 c2=>?_⟩
   ·rcases J1 hj with⟨rfl,hj2⟩|⟨_,hj⟩
    ·simp only[Qb] at hj2
     subst hj2
     exact⟨_,[c],y4,DR.mono keep _ _ _ (fun _ _=>rfl) hdr,by simpa using fun e=>hcb e.symm⟩
    ·obtain⟨u,os',q1,q2,q3⟩:=h3 j ys hj
     exact⟨u,os',q1,DR.mono keep _ _ _ (fun _ _=>rfl) q2,q3⟩
   ·have cross:∀j ys p q,l[j]?=some (some ys)→cur[j]?=some (Value.slice (some ⟨x,0,none⟩) p q)→x=c→False:=fun j ys p q hj hcj hx=>by
     have o2:OB κ hp w id' x:=⟨_,_,hl,rfl,hk,.inr ⟨cur,ty,j,ys,p,q,hg,hj,hcj⟩⟩
     exact hne (h.inj _ _ _ (hx▸hobc) o2)
    have own:∀p q,cur[i]?=some (Value.slice (some ⟨x,0,none⟩) p q)→x=c:=fun p q hv=>by
     rw[y4] at hv
     simp only[Qb,Value.slice.injEq,Addr.mk.injEq,and_true] at hv
     exact hv.1.symm
    rcases J1 g1 with⟨rfl,_⟩|⟨_,g1⟩<;>rcases J1 g2 with⟨rfl,_⟩|⟨_,g2⟩
    ·rfl
    ·exact (cross _ _ _ _ g2 c2 (own _ _ c1)).elim
    ·exact (cross _ _ _ _ g1 c1 (own _ _ c2)).elim
    ·exact h4 j1 j2 ys zs x p q r s g1 g2 c1 c2
  ·rw[if_neg e1,Yo] at he'
   split at he'
   ·cases he'
   ·exact .inl ⟨he',fun _ _ _ _ _=>rfl⟩
 ·obtain⟨n1,p1⟩:=hob _ _ o1
  obtain⟨n2,p2⟩:=hob _ _ o2
  rcases p1 with⟨e1,e1'⟩|p1<;>rcases p2 with⟨e2,e2'⟩|p2
  ·rw[e1,e2]
  ·exact absurd (h.inj _ _ _ (e1'▸hobc) p2).symm n2
  ·exact absurd (h.inj _ _ _ (e2'▸hobc) p1).symm n1
  ·exact h.inj _ _ _ p1 p2
theorem Qnv{F':Nat→Prop}(h:RH B κ hp F w)(hs:RS B κ hp w sl tm)(h0:F n)(hF':∀id,F' id→F id∧id≠n){o:Oper}{t:TypeId}{xo:Operand}(ho:o.op=.load t xo){x:X}(hx:cX xo=some x)(ha:Zd P t=some false)(hz:Xi P t=some 1)
  {id i sz:Nat} {l:List (Option (List D))} {xs:List D} {mk:Option (Nat×Nat×Nat)} (hd:ev sl x=some (.pe id i 0)) (hl:lk hp id=some (.nst sz l none)) (hli:l[i]?=some (some xs)) (hmk:∀a b c,mk=some (a,b,c)→a=i∧b=n∧c=xs.length∧xs≠[]):
  Res P B κ hp (up (up hp id (.nst sz (l.set i none) mk)) n (.arr sz xs)) F' w ((execOp (Act.eval ⟨tm,df⟩) o).run P w) (.sl n 0 xs.length):=by
 have hv:=Xd (df:=df) hs hx hd
 have hent:=h.ent id _ hl
 simp only[ER] at hent
 obtain⟨hmx,hmo,b,tot,cur,ty,hk,hg,h1,h2,h3,h4⟩:=hent
 simp only[MR,hk,Qb,KI.arr.injEq] at hv
 obtain⟨b',sz',tot',⟨rfl,rfl,rfl⟩,hv⟩:=hv
 simp only[Nat.mul_one,Nat.add_zero] at hv
 obtain⟨v,os,hc,hdr,hbo⟩:=h3 i xs hli
 have hload:(Go.loadVar t ⟨b,i,none⟩).run P w=.ok v w:=by
  have:=Qex (P:=P) (w:=w) (b:=b) (off:=i) ha hz (us:=[v]) (Mem.of_cells hg (fun j u hj=>by
   cases j with
   |zero=>simp only[List.getElem?_cons_zero,Qb] at hj;subst hj;simpa using hc
   |succ j=>simp at hj)) rfl (fun _=>rfl)
  simpa using this
 have hrun:(execOp (Act.eval ⟨tm,df⟩) o).run P w=.ok (.value v) w:=by
  simp [execOp,ho,Instr.loadAt,Instr.sureAddr,hv,hload]
 simp only[DR] at hdr
 obtain⟨hmax,hdr⟩:=hdr
 --where the element lies
 obtain⟨ki,hki,hkb,hmr,her,hmark⟩:∃ki:KI,(∀c,ki.blk=some c→c≠b∧∃p q,v=.slice (some ⟨c,0,none⟩) p q)∧(∀c p q,v=.slice (some ⟨c,0,none⟩) p q→ki.blk=some c)∧(∀I,MR w I (Xf κ n ki) (.sl n 0 xs.length) v)∧
   (∀I,Keep w w (Im B κ hp w) I→ER w I (Xf κ n ki) n (.arr sz xs))∧(xs≠[]→∃c t2 cap,Xf κ n ki n=some (.arr c sz t2)∧cur[i]?=some (Value.slice (some ⟨c,0,none⟩) xs.length cap)∧xs.length≤cap∧cap≤maxLen∧cap*sz≤t2):=by
  rcases hdr with⟨rfl,rfl,rfl⟩|⟨c,cap,cur2,ty2,us,rfl,rfl,q1,q2,q3,q4,q5,q6⟩
  ·exact⟨.nil sz,(by simp [KI.blk]),(by simp),(fun I=>by simp only[MR];exact .inl ⟨sz,Xe,by simp⟩),fun I _=>by simp only[ER];exact⟨Nat.zero_le _,.inl ⟨Xe,trivial⟩⟩,fun h=>absurd rfl h⟩
  ·refine⟨.arr c sz (cap*sz),fun c' hc'=>?_,fun c' p q hc'=>?_,fun I=>?_,fun I keep=>?_,fun _=>⟨c,_,cap,Xe,hc,q2,q3,Qg _⟩⟩
   ·simp only[KI.blk,Qb] at hc'
    subst hc'
    exact⟨fun e=>hbo (by simp [e]),_,_,rfl⟩
   ·simp only[Value.slice.injEq,Qb,Addr.mk.injEq,and_true] at hc'
    simp [KI.blk,hc'.1]
   ·simp only[MR];exact .inr ⟨c,sz,_,0,cap,Xe,rfl,q2,q3,by omega,fun _=>by omega⟩
   ·simp only[ER];exact⟨hmax,.inr ⟨c,_,cur2,ty2,us,Xe,q1,q4,q5,PE.mono keep _ _ _ q6⟩⟩
 have hin0:∀c p q,v=.slice (some ⟨c,0,none⟩) p q→OB κ hp w id c:=fun c p q hvc=>⟨_,_,hl,rfl,hk,.inr ⟨cur,ty,i,xs,p,q,hg,hli,by rw[hc,hvc]⟩⟩
 have hne:id≠n:=fun e=>by have:=h.fr n h0;rw[←e,hk] at this;cases this
 have kle:=h.kle h0 ki
 --who owns what
 have hob:∀id' c,OB (Xf κ n ki) (up (up hp id (.nst sz (l.set i none) mk)) n (.arr sz xs)) w id' c→(id'=n∧ki.blk=some c)∨(id'≠n∧OB κ hp w id' c∧(id'=id→ki.blk≠some c)):=by
  rintro id' c ⟨e,k,g1,g2,g3,g4⟩
  rw[Xw] at g1
  by_cases e1:id'=n
  ·subst e1
   rw[if_pos rfl] at g1
   cases g1
   rw[Xe] at g3
   cases g3
   exact .inl ⟨rfl,g4.own1 rfl⟩
  ·rw[if_neg e1,Xw] at g1
   rw[XS e1] at g3
   by_cases e2:id'=id
   ·subst e2
    rw[if_pos rfl] at g1
    cases g1
    rw[hk] at g3
    cases g3
    rcases g4 with g4|g4
    ·simp only[KI.blk,Qb] at g4
     subst g4
     refine .inr ⟨e1,⟨_,_,hl,rfl,hk,.inl rfl⟩,fun _ hkb=>?_⟩
     exact (hki _ hkb).1 rfl
    ·unfold InB at g4
     obtain⟨cur',ty',j,ys,p,q,r1,r2,r3⟩:=g4
     rw[hg] at r1
     simp only[Qb,Obj.cells.injEq] at r1
     obtain⟨rfl,rfl,_⟩:=r1
     rcases J1 r2 with⟨_,r2⟩|⟨hij,r2⟩
     ·cases r2
     ·refine .inr ⟨e1,⟨_,_,hl,rfl,hk,.inr ⟨cur,ty,j,ys,p,q,hg,r2,r3⟩⟩,fun _ hkb=>?_⟩
      obtain⟨_,p',q',hvc⟩:=hki _ hkb
      exact hij (h4 i j xs ys c p' q' p q hli r2 (by rw[hc,hvc]) r3)
   ·rw[if_neg e2] at g1
    exact .inr ⟨e1,⟨_,_,g1,g2,g3,g4⟩,fun h=>absurd h e2⟩
 have hob1:∀id' c,OB (Xf κ n ki) (up (up hp id (.nst sz (l.set i none) mk)) n (.arr sz xs)) w id' c→OB κ hp w (if id'=n then id else id') c:=by
  intro id' c ho
  rcases hob id' c ho with⟨rfl,hb⟩|⟨h1,h2,_⟩
  ·obtain⟨_,p,q,hvc⟩:=hki _ hb
   rw[if_pos rfl]
   exact hin0 c p q hvc
  ·rw[if_neg h1];exact h2
 have kk:RH B (Xf κ n ki) (up (up hp id (.nst sz (l.set i none) mk)) n (.arr sz xs)) F' w∧Nxt B κ (Xf κ n ki) hp (up (up hp id (.nst sz (l.set i none) mk)) n (.arr sz xs)) w w:=?_
 ·exact⟨_,v,w,.inl hrun,kk.1,kk.2,hmr _⟩
 refine h.next (κ':=Xf κ n ki) (hp':=up (up hp id (.nst sz (l.set i none) mk)) n (.arr sz xs)) (F':=F') (w':=w) kle (Stp.refl _ _) (fun c ⟨id',ho⟩=>.inl ⟨_,hob1 id' c ho⟩)
  (fun id' hi'=>by rw[XS (hF' id' hi').2];exact h.fr id' (hF' id' hi').1) (fun c ⟨id',ho⟩=>(h.own c ⟨_,hob1 id' c ho⟩).2) (fun keep id' e' he'=>?_) (fun id1 id2 c o1 o2=>?_)
 ·rw[Xw] at he'
  by_cases e1:id'=n
  ·subst e1
   rw[if_pos rfl] at he'
   cases he'
   exact .inr (her _ keep)
  ·rw[if_neg e1,Xw] at he'
   by_cases e2:id'=id
   ·subst e2
    rw[if_pos rfl] at he'
    cases he'
    refine .inr ?_
    simp only[ER]
    refine⟨by simpa using hmx,fun i' m' len' hm=>?_,b,tot,cur,ty,kle _ _ hk,hg,h1,by simpa using h2,fun j ys hj=>?_,fun j1 j2 ys zs c p q r s g1 g2=>?_⟩
    ·obtain⟨rfl,rfl,rfl,hne'⟩:=hmk _ _ _ hm
     obtain⟨c,t2,cap,y1,y2,y3,y4,y5⟩:=hmark hne'
     have hil:=(Qp.1 hli).1
     exact⟨by rw[List.getElem?_set_self hil],b,tot,cur,ty,c,t2,cap,kle _ _ hk,hg,y1,y2,y3,y4,y5⟩
    ·rcases J1 hj with⟨_,hj⟩|⟨_,hj⟩
     ·cases hj
     ·obtain⟨v',os',r1,r2,r3⟩:=h3 j ys hj
      exact⟨v',os',r1,DR.mono keep _ _ _ (fun _ _=>rfl) r2,r3⟩
    ·rcases J1 g1 with⟨_,g1⟩|⟨_,g1⟩
     ·cases g1
     ·rcases J1 g2 with⟨_,g2⟩|⟨_,g2⟩
      ·cases g2
      ·exact h4 j1 j2 ys zs c p q r s g1 g2
   ·rw[if_neg e2] at he'
    exact .inl ⟨he',fun _ _ _ _ _=>rfl⟩
 ·rcases hob _ _ o1 with⟨a1,a2⟩|⟨a1,a2,a3⟩<;>rcases hob _ _ o2 with⟨b1,b2⟩|⟨b1,b2,b3⟩
  ·rw[a1,b1]
  ·obtain⟨_,p,q,hvc⟩:=hki _ a2
   exact absurd a2 (b3 (h.inj _ _ _ b2 (hin0 c p q hvc)))
  ·obtain⟨_,p,q,hvc⟩:=hki _ b2
   exact absurd b2 (a3 (h.inj _ _ _ a2 (hin0 c p q hvc)))
  ·exact h.inj _ _ _ a2 b2
theorem Qnw(h:RH B κ hp F w)(hs:RS B κ hp w sl tm)(hF:∀k,k<64→F (n+k)){o:Oper}{t:TypeId}{xo:Operand}(ho:o.op=.load t xo){x:X}(hx:cX xo=some x)(ha:Zd P t=some false)(hz:Xi P t=some 1)
  (he:eff n sl hp (.tk x)=some (d,hp')):Res P B κ hp hp' (Fr F n) w ((execOp (Act.eval ⟨tm,df⟩) o).run P w) d:=by
 simp only[eff] at he
 cases htk:tkE n sl hp x with
 |none=>
  simp only[htk] at he
  exact Qg8 h hs ho hx ha hz he
 |some r=>
  simp only[htk,Qb] at he
  subst he
  unfold tkE at htk
  split at htk
  case h_2=>cases htk
  rename_i id i off hd
  split at htk
  case h_2=>cases htk
  rename_i sz l hl
  split at htk
  case h_2=>cases htk
  rename_i xs hli
  split at htk
  case isFalse=>cases htk
  rename_i hc
  obtain⟨rfl,hpos⟩:=hc
  simp only[Qb,Qc] at htk
  obtain⟨rfl,rfl⟩:=htk
  obtain⟨κ',v,w',h1,h2,h3,h4⟩:=Qnv (df:=df) (F':=fun id=>F id∧id≠n) (mk:=some (i,n,xs.length)) h hs (F:=F) (hF 0 (by omega)) (fun _ h=>h) ho hx ha hz hd hl hli (fun a b c e=>by
   simp only[Qb,Qc] at e
   exact⟨e.1.symm,e.2.1.symm,e.2.2.symm,fun e=>by rw[e] at hpos;simp at hpos⟩)
  obtain⟨g1,g2⟩:=h2.link (F':=Fr F n) (m:=n+1) ⟨hF 1 (by omega),by omega⟩ (fun k hk=>⟨⟨Fr.sub k hk,(Fr.ne (n:=n) (k:=0) (by omega) k hk).2⟩,(Fr.ne (n:=n) (k:=1) (by omega) k hk).2⟩) id
  exact⟨_,v,w',h1,g1,h3.trans g2,h4.mono g2.keep g2.kle⟩
theorem Qnx(h:RH B κ hp F w){m:Nat}(hf:Jt hp m=some hp'):RH B κ hp' F w∧Nxt B κ κ hp hp' w w:=by
 unfold Jt at hf
 split at hf
 case h_2=>cases hf
 split at hf
 case h_2=>cases hf
 rename_i sz xs sz' l i m' len hm hl
 split at hf
 case isFalse=>cases hf
 rename_i hc
 obtain⟨rfl,rfl,rfl⟩:=hc
 simp only[Qb] at hf
 subst hf
 exact h.fold hl hm
theorem Qny(h:RH B κ hp F w)(hs:RS B κ hp w sl tm){o:Oper}{t:TypeId}{ao xo:Operand}(ho:o.op=.store t ao xo){a x:X}(ha:cX ao=some a)(hx:cX xo=some x)(hz:Xi P t=some 1)
  (he:eff n sl hp (.pu a x)=some (d,hp')):Res P B κ hp hp' (Fr F n) w ((execOp (Act.eval ⟨tm,df⟩) o).run P w) d:=by
 simp only[eff] at he
 split at he
 ·split at he
  ·split at he
   ·rename_i u hp1 hst
    simp only[Qi,Qc] at he
    obtain⟨hp2,hf,rfl,rfl⟩:=he
    obtain⟨κ',v,w',h1,h2,h3,h4⟩:=QeE (n:=n) (df:=df) h hs ho ha hx hz Nat.one_ne_zero hst
    obtain⟨g1,g2⟩:=Qnx h2 hf
    exact⟨κ',v,w',h1,g1,h3.trans g2,h4.mono g2.keep g2.kle⟩
   ·cases he
  ·cases he
 ·exact QeE h hs ho ha hx hz Nat.one_ne_zero he
theorem Qnz(h:RH B κ hp F w){m sz:Nat}{xs:List D}(hm:lk hp m=some (.arr sz xs)){v:Value}(hv:MR w (Im B κ hp w) κ (.sl m 0 xs.length) v):
  ∃os,DR w (Im B κ hp w) (.arr sz xs) v os∧(∀c∈os,OB κ hp w m c)∧v.cells=#[v]∧v.oneCell'=true:=by
 have hentm:=h.ent m _ hm
 simp only[ER] at hentm
 obtain⟨hmax,hentm⟩:=hentm
 simp only[MR] at hv
 simp only[DR]
 rcases hv with⟨s1,q1,rfl,_,q2⟩|⟨c,s1,t1,off,cap,q1,rfl,q2,q3,q4,q5⟩
 ·exact⟨[],⟨hmax,.inl ⟨rfl,List.eq_nil_of_length_eq_zero q2,rfl⟩⟩,by simp,rfl,rfl⟩
 ·rcases hentm with⟨r1,_⟩|⟨c',t2,cur2,ty2,us,r1,r2,r3,r4,r5⟩
  ·rw[q1] at r1;cases r1
  ·rw[q1] at r1
   simp only[Qb,KI.arr.injEq] at r1
   obtain⟨rfl,rfl,rfl⟩:=r1
   have hoff:=q5 (.inr trivial)
   simp only[Nat.zero_mul] at hoff
   subst hoff
   exact⟨[c],⟨hmax,.inr ⟨c,cap,cur2,ty2,us,rfl,rfl,r2,q2,q3,by omega,r4,r5⟩⟩,fun c' hc'=>by
    rw[Qm] at hc';subst hc';exact⟨_,_,hm,rfl,q1,.inl rfl⟩,rfl,rfl⟩
theorem QcW{I:Nat→Prop}{sz:Nat}{xs:List D}{c p q:Nat}{os:List Nat}(h:DR w I (.arr sz xs) (Value.slice (some ⟨c,0,none⟩) p q) os):os=[c]:=by
 simp only[DR] at h
 rcases h.2 with⟨e,_⟩|⟨c',cap,_,_,_,e,rfl,_⟩
 ·cases e
 ·simp only[Value.slice.injEq,Qb,Addr.mk.injEq,and_true] at e
  rw[e.1]
theorem Qhr{F':Nat→Prop}{w':World}(h:RH B κ hp F w){S:Nat→Prop}(h0:F n)(hF':∀id,F' id→F id∧id≠n){b tot:Nat}{cur:Array Value}{ty:TypeId}{sz:Nat}{l:List (Option (List D))}
  (h1:lk hp' n=some (.nst sz l none)) (h2:∀id,id≠n→∀e,lk hp' id=some e→¬S id∧lk hp id=some e) (hst:Stp (·=b) w w') (hg:w'.heap[b]?=some (.cells cur ty (0,0)))
  (hb:(b=w.heap.size∧b<w'.heap.size)∨∃i,S i∧OB κ hp w i b) (htot:tot≤cur.size) (hl:l.length≤tot) (hmax:l.length≤QS)
  (hel:∀(i:Nat)(xs:List D),l[i]?=some (some xs)→∃v os,cur[i]?=some v∧DR w (Im B κ hp w) (.arr sz xs) v os∧∀c∈os,c≠b∧∃i,S i∧OB κ hp w i c)
  (hd:∀(i j:Nat)(xs ys:List D)(c p q r s:Nat),l[i]?=some (some xs)→l[j]?=some (some ys)→cur[i]?=some (Value.slice (some ⟨c,0,none⟩) p q)→cur[j]?=some (Value.slice (some ⟨c,0,none⟩) r s)→i=j):
  RH B (Xf κ n (.arr b 1 tot)) hp' F' w'∧Nxt B κ (Xf κ n (.arr b 1 tot)) hp hp' w w':=by
 refine h.gather (S:=S) h0 hF' (ki:=.arr b 1 tot) rfl h1 h2 hst hb (fun c hc=>?_) (fun keep=>?_)
 ·unfold InB at hc
  obtain⟨cur',ty',i,xs,p,q,q1,q2,q3⟩:=hc
  rw[hg] at q1
  simp only[Qb,Obj.cells.injEq] at q1
  obtain⟨rfl,rfl,_⟩:=q1
  obtain⟨v,os,r1,r2,r3⟩:=hel i xs q2
  rw[q3] at r1
  simp only[Qb] at r1
  subst r1
  have:=QcW r2
  subst this
  exact r3 c (by simp)
 ·simp only[ER]
  refine⟨hmax,(fun _ _ _ h=>by cases h),b,tot,cur,ty,Xe,hg,htot,hl,fun i xs hi=>?_,hd⟩
  obtain⟨v,os,r1,r2,r3⟩:=hel i xs hi
  refine⟨v,os,r1,DR.mono keep _ _ _ (fun c hc=>?_) r2,fun hbo=>(r3 b hbo).1 rfl⟩
  obtain⟨g1,i',_,g2⟩:=r3 c hc
  exact hst.block c (h.own c ⟨i',g2⟩).2 g1
theorem QnA{t e:TypeId}{ps:Array (Nat×Operand)}{xo:Operand}{o:Oper}(ho:o.op=.buildSlice t 1 ps)(hps:ps.toList=[(0,xo)])(hu:P.underlying t=some (.slice e))(hz:Xi P e=some 1){zv:Value}(hzv:(zeroValue e).run P w=.ok zv w)
  {v:Value} (hv:Act.eval ⟨tm,df⟩ xo=v) (hvc:v.cells=#[v]):(execOp (Act.eval ⟨tm,df⟩) o).run P w=.ok (.value (.slice (some ⟨w.heap.size,0,none⟩) 1 1)) (w.alloc (.cells #[v] e)):=by
 have hps':ps=#[(0,xo)]:=by apply Array.ext';simpa using hps
 subst hps'
 have hfill:Instr.fill (fun i=>some (i,1)) (Array.map (fun x=>zv.cells[x%zv.cells.size]!) (Array.range 1)) [(0,Act.eval ⟨tm,df⟩ xo)]=some #[v]:=by
  rw[show Array.range 1=#[0] from rfl,hv]
  simp [Instr.fill,hvc]
 have hl:¬(16777216<1):=by omega
 simp [execOp,ho,Instr.buildSlice,run_underlying hu,ZZ hz,hzv,newRow,hfill]
theorem QnB(h:RH B κ hp F w)(hs:RS B κ hp w sl tm)(hF:∀k,k<64→F (n+k)){o:Oper}{t e:TypeId}{ps:Array (Nat×Operand)}(ho:o.op=.buildSlice t 1 ps)(hu:P.underlying t=some (.slice e))(hz:Xi P e=some 1)
  {z:D} (hze:ZX P e=some z) (hoe:Ym 1 z=true) {x:X} {xo:Operand} (hps:ps.toList=[(0,xo)]) (hx:cX xo=some x) {by_:Nat} (he:eff n sl hp (.bsn by_ x)=some (d,hp')):
  Res P B κ hp hp' (Fr F n) w ((execOp (Act.eval ⟨tm,df⟩) o).run P w) d:=by
 obtain⟨zv,hzv,hzv2,g1,g2⟩:=QbP (w:=w) (I:=Im B κ hp w) hze hoe
 have h0:=hF 0 (by omega)
 --enough:the element's datum
 have key:∀(S:Nat→Prop)(sz:Nat)(xs:List D)(v:Value)(os:List Nat),Act.eval ⟨tm,df⟩ xo=v→v.cells=#[v]→DR w (Im B κ hp w) (.arr sz xs) v os→(∀c∈os,∃i,S i∧OB κ hp w i c)→
   lk hp' n=some (.nst sz [some xs] none)→(∀id,id≠n→∀e,lk hp' id=some e→¬S id∧lk hp id=some e)→d=.sl n 0 1→Res P B κ hp hp' (Fr F n) w ((execOp (Act.eval ⟨tm,df⟩) o).run P w) d:=by
  intro S sz xs v os hv hvc hdr hos h1 h2 hd
  subst hd
  have hgn:(w.alloc (.cells #[v] e)).heap[w.heap.size]?=some (.cells #[v] e (0,0)):=by
   show (w.heap.push (.cells #[v] e))[w.heap.size]?=_
   simp
  have hold:∀b,b<w.heap.size→(w.alloc (.cells #[v] e)).heap[b]?=w.heap[b]?:=fun b hb=>by
   show (w.heap.push (.cells #[v] e))[b]?=_
   rw[Array.getElem?_push_lt hb];simp [hb]
  have hlt:∀id c,OB κ hp w id c→c<w.heap.size:=fun id c ho=>(h.own c ⟨id,ho⟩).2
  obtain⟨k1,k2⟩:=Qhr (n:=n) (F':=Fr F n) (S:=S) (w':=w.alloc (.cells #[v] e)) (b:=w.heap.size) (tot:=1) (cur:=#[v]) (ty:=e) (l:=[some xs]) (sz:=sz) h h0 (Fr.ne (k:=0) (by omega)) h1 h2
   ⟨rfl,rfl,rfl,by show w.heap.size≤(w.heap.push _).size;simp,fun b hb _=>hold b hb,fun b c e fr hg=>⟨c,by rw[hold b ((QB.1 hg).1)];exact hg,rfl⟩⟩ hgn
   (.inl ⟨rfl,by show w.heap.size<(w.heap.push _).size;simp⟩) (by simp) (by simp) (by simp [QS]) (fun i ys hi=>by
    match i,hi with
    |0,hi=>
     simp only[List.getElem?_cons_zero,Qb] at hi
     subst hi
     exact⟨v,os,rfl,hdr,fun c hc=>let ⟨i,q1,q2⟩:=hos c hc;⟨by have:=hlt _ _ q2;omega,i,q1,q2⟩⟩
    |i+1,hi=>simp at hi) (fun i j xs ys c p q r s hi hj _ _=>by
    have:=(Qp.1 hi).1
    have:=(Qp.1 hj).1
    simp at*
    omega)
  exact⟨_,_,_,.inl (QnA ho hps hu hz hzv hv hvc),k1,k2,by simp only[MR];exact .inr ⟨_,_,_,0,1,Xe,rfl,Qg _,by simp [maxLen],by omega,fun _=>by omega⟩⟩
 simp only[eff] at he
 split at he
 ·rename_i sz hd
  split at he
  ·simp only[Qb,Qc] at he
   obtain⟨rfl,rfl⟩:=he
   have hv:=Xd (df:=df) hs hx hd
   simp only[MR] at hv
   exact key (fun _=>False) sz [] _ [] hv rfl (by simp [DR]) (by simp) (by rw[Xw,if_pos rfl]) (fun k hid e he=>by rw[Xw,if_neg hid] at he;exact⟨fun f=>f,he⟩) rfl
  ·cases he
 ·rename_i m lo len hd
  split at he
  ·rename_i sz xs hm
   split at he
   ·rename_i hc
    obtain⟨rfl,rfl,_⟩:=hc
    simp only[Qb,Qc] at he
    obtain⟨rfl,rfl⟩:=he
    have hv:=Xd (df:=df) hs hx hd
    obtain⟨os,q1,q2,q3,_⟩:=Qnz h hm hv
    exact key (·=m) sz xs _ os rfl q3 q1 (fun c hc=>⟨m,rfl,q2 c hc⟩) (by rw[Xw,if_pos rfl]) (fun id hid e he=>by
     rw[Xw,if_neg hid,Yo] at he
     split at he
     ·cases he
     ·rename_i hne;exact⟨hne,he⟩) rfl
   ·cases he
  ·cases he
 ·cases he
theorem Qhs{F':Nat→Prop}{w':World}(h:RH B κ hp F w){S:Nat→Prop}{j:Nat}(hj:¬S j)(h0:F n)(hF':∀id,F' id→F id∧id≠n){b tot:Nat}{cur:Array Value}{ty:TypeId}{sz:Nat}{l:List (Option (List D))}{ys:List D}{v0:Value}{os0:List Nat}
  (h1:lk hp' n=some (.nst sz (l++[some ys]) none)) (h2:∀id,id≠n→∀e,lk hp' id=some e→¬(S id∨id=j)∧lk hp id=some e) (hst:Stp (·=b) w w') (hg:w'.heap[b]?=some (.cells cur ty (0,0)))
  (hb:(b=w.heap.size∧b<w'.heap.size)∨∃i,S i∧OB κ hp w i b) (htot:tot≤cur.size) (hl:l.length+1≤tot) (hmax:l.length+1≤QS)
  (hv0:cur[l.length]?=some v0) (hdr:DR w (Im B κ hp w) (.arr sz ys) v0 os0) (hos:∀c∈os0,OB κ hp w j c)
  (hel:∀(i:Nat)(xs:List D),l[i]?=some (some xs)→∃v os,cur[i]?=some v∧DR w (Im B κ hp w) (.arr sz xs) v os∧∀c∈os,c≠b∧∃i,S i∧OB κ hp w i c)
  (hd:∀(i j:Nat)(xs ys:List D)(c p q r s:Nat),l[i]?=some (some xs)→l[j]?=some (some ys)→cur[i]?=some (Value.slice (some ⟨c,0,none⟩) p q)→cur[j]?=some (Value.slice (some ⟨c,0,none⟩) r s)→i=j):
  RH B (Xf κ n (.arr b 1 tot)) hp' F' w'∧Nxt B κ (Xf κ n (.arr b 1 tot)) hp hp' w w':=by
 have hcase:∀(i:Nat)(xs:List D),(l++[some ys])[i]?=some (some xs)→l[i]?=some (some xs)∨(i=l.length∧xs=ys):=fun i xs hi=>by
  by_cases hil:i<l.length
  ·rw[Qz hil] at hi;exact .inl hi
  ·rw[QE (by omega)] at hi
   have h2:=(Qp.1 hi).1
   simp only[List.length_singleton] at h2
   have:i-l.length=0:=by omega
   rw[this] at hi
   simp only[List.getElem?_cons_zero,Qb] at hi
   exact .inr ⟨by omega,hi.symm⟩
 have cross:∀(i:Nat)(xs:List D)(c p q r s:Nat),l[i]?=some (some xs)→cur[i]?=some (Value.slice (some ⟨c,0,none⟩) p q)→cur[l.length]?=some (Value.slice (some ⟨c,0,none⟩) r s)→False:=fun i xs c p q r s g1 g2 g3=>by
  obtain⟨v,os,r1,r2,r3⟩:=hel i xs g1
  rw[g2] at r1
  simp only[Qb] at r1
  subst r1
  rw[hv0] at g3
  simp only[Qb] at g3
  subst g3
  have e1:=QcW r2
  have e2:=QcW hdr
  subst e1 e2
  obtain⟨_,i',q1,q2⟩:=r3 c (by simp)
  exact hj (h.inj _ _ _ q2 (hos c (by simp))▸q1)
 refine Qhr h (S:=fun i=>S i∨i=j) h0 hF' h1 h2 hst hg (hb.imp id fun⟨i,a,b⟩=>⟨i,.inl a,b⟩) htot (by simpa using hl) (by simpa using hmax) (fun i xs hi=>?_) (fun i k xs zs c p q r s g1 g2 c1 c2=>?_)
 ·rcases hcase i xs hi with hi|⟨rfl,rfl⟩
  ·obtain⟨v,os,r1,r2,r3⟩:=hel i xs hi
   exact⟨v,os,r1,r2,fun c hc=>let ⟨a,i',q1,q2⟩:=r3 c hc;⟨a,i',.inl q1,q2⟩⟩
  ·refine⟨v0,os0,hv0,hdr,fun c hc=>⟨fun e=>?_,j,.inr rfl,hos c hc⟩⟩
   subst e
   rcases hb with⟨e,_⟩|⟨i,q1,q2⟩
   ·have:=(h.own _ ⟨j,hos _ hc⟩).2;omega
   ·exact hj (h.inj _ _ _ q2 (hos _ hc)▸q1)
 ·rcases hcase _ _ g1 with a1|⟨e1,_⟩<;>rcases hcase _ _ g2 with a2|⟨e2,_⟩
  ·exact hd i k xs zs c p q r s a1 a2 c1 c2
  ·rw[e2] at c2;exact (cross _ _ _ _ _ _ _ a1 c1 c2).elim
  ·rw[e1] at c1;exact (cross _ _ _ _ _ _ _ a2 c2 c1).elim
  ·rw[e1,e2]
theorem QnC(h:RH B κ hp F w)(hs:RS B κ hp w sl tm)(hF:∀k,k<64→F (n+k)){o:Oper}{c:Call}(ho:o.op=.call c)(hc:c.callee=.builtin .append){t u:TypeId}(hat:c.argTypes.toList=[t,u]){xo yo:Operand}(ha:c.args.toList=[xo,yo])
  {e e':TypeId} (ht:P.underlying t=some (.slice e)) (hu:P.underlying u=some (.slice e')) (hz:Xi P e=some 1) {i:TypeInfo} (hi:P.info? e=some i) {z:Value} (hzz:i.zero=some z) (hzc:z.cells.size=1)
  {x y:X} (hx:cX xo=some x) (hy:cX yo=some y) (he:eff n sl hp (.apn i.bytes x y)=some (d,hp')):
  Res P B κ hp hp' (Fr F n) w ((execOp (Act.eval ⟨tm,df⟩) o).run P w) d:=by
 have hsz:i.size=1:=by simpa [Xi,hi] using hz
 have hat':c.argTypes=#[t,u]:=by apply Array.ext';simpa using hat
 have ha':c.args=#[xo,yo]:=by apply Array.ext';simpa using ha
 have hrun:(execOp (Act.eval ⟨tm,df⟩) o).run P w=((Builtin.append_ #[t,u] o.type #[Act.eval ⟨tm,df⟩ xo,Act.eval ⟨tm,df⟩ yo]).run P w).andThen fun v w'=>.ok (.value v) w':=by
  simp [execOp,ho,resolve,hc,ha',hat',invoke,builtin]
 rw[hrun]
 have h0:=hF 0 (by omega)
 have hlt:∀id c,OB κ hp w id c→c<w.heap.size:=fun id c ho=>(h.own c ⟨id,ho⟩).2
 --the element that comes
 have elem:∀{j sz:Nat}{ys:List D},lk hp j=some (.nst sz [some ys] none)→ev sl y=some (.sl j 0 1)→∃v0 os0,Src P w i.size 1 (Act.eval ⟨tm,df⟩ yo) [v0]∧DR w (Im B κ hp w) (.arr sz ys) v0 os0∧∀c∈os0,OB κ hp w j c:=by
  intro j sz ys hl hd
  have hv:=Xd (df:=df) hs hy hd
  have hent:=h.ent j _ hl
  simp only[ER] at hent
  obtain⟨_,_,b,tot,cur,ty,hk,hg,h1,h2,h3,h4⟩:=hent
  simp only[MR,hk,Qb,reduceCtorEq,false_and,exists_false,false_or,KI.arr.injEq] at hv
  obtain⟨b',_,_,off,cap,⟨rfl,rfl,rfl⟩,hv,q1,q2,q3,q4⟩:=hv
  have hoff:off=0:=by simpa using q4
  subst hoff
  obtain⟨v0,os0,r1,r2,r3⟩:=h3 0 ys rfl
  have hone:v0.oneCell'=true:=by
   have r2':=r2
   simp only[DR] at r2'
   rcases r2'.2 with⟨e,_⟩|⟨_,_,_,_,_,e,_⟩<;>subst e<;>rfl
  refine⟨v0,os0,?_,r2,fun c hc=>?_⟩
  ·rw[hv,hsz]
   exact Src.of_mem (Mem.of_cells hg fun k u hk=>by
    cases k with
    |zero=>simp only[List.getElem?_cons_zero,Qb] at hk;subst hk;simpa using r1
    |succ k=>simp at hk) rfl (by simpa using hone)
  ·have r2':=r2
   simp only[DR] at r2'
   rcases r2'.2 with⟨_,_,rfl⟩|⟨c',cap,_,_,_,rfl,rfl,_⟩
   ·cases hc
   ·rw[Qm] at hc
    subst hc
    exact⟨_,_,hl,rfl,hk,.inr ⟨cur,ty,0,ys,_,_,hg,rfl,r1⟩⟩
 --a new row
 have grow:∀(S:Nat→Prop)(j sz:Nat)(l:List (Option (List D)))(ys:List D)(base:Option Addr)(sCap:Nat)(olds:List Value)(v0:Value)(os0:List Nat),¬S j→Src P w i.size 1 (Act.eval ⟨tm,df⟩ yo) [v0]→DR w (Im B κ hp w) (.arr sz ys) v0 os0→(∀c∈os0,OB κ hp w j c)→
   lk hp' n=some (.nst sz (l++[some ys]) none)→(∀id,id≠n→∀e,lk hp' id=some e→¬(S id∨id=j)∧lk hp id=some e)→Act.eval ⟨tm,df⟩ xo=.slice base l.length sCap→olds.length=l.length→
   (Builtin.firstCells i.size l.length (.slice base l.length sCap)).run P w.drew=.ok olds.toArray w.drew→sCap<l.length+1→Ya (l.length+1) i.bytes=true→d=.sl n 0 (l.length+1)→
   (∀(i:Nat)(xs:List D),l[i]?=some (some xs)→∃v os,olds[i]?=some v∧DR w (Im B κ hp w) (.arr sz xs) v os∧∀c∈os,∃i,S i∧OB κ hp w i c)→
   (∀(i j:Nat)(xs ys:List D)(c p q r s:Nat),l[i]?=some (some xs)→l[j]?=some (some ys)→olds[i]?=some (Value.slice (some ⟨c,0,none⟩) p q)→olds[j]?=some (Value.slice (some ⟨c,0,none⟩) r s)→i=j)→
   Res P B κ hp hp' (Fr F n) w (((Builtin.append_ #[t,u] o.type #[Act.eval ⟨tm,df⟩ xo,Act.eval ⟨tm,df⟩ yo]).run P w).andThen fun v w'=>.ok (.value v) w') d:=by
  intro S j sz l ys base sCap olds v0 os0 hj hsrc hdr hos h1 h2 hvx hol hf hcap XM hd hel hdd
  subst hd
  obtain⟨f1,f2⟩:=QaA XM
  have hnx:Builtin.nextslicecap (l.length+1) sCap*i.bytes≤281474976710656:=growslice_fits hcap f1
  rw[hvx,Qhp (ty:=o.type) ht hu hi hzz hf hsrc hcap (by simp only[QS] at f2;omega) hnx]
  simp only[Result.andThen_ok]
  have hge:=grownCap_ge w (l.length+1) sCap e
  have hle:=QeF (w:=w) (old:=sCap) (e:=e) f2
  generalize hcur:olds.toArray++[v0].toArray++Builtin.zeroCells z.cells (grownCap w (l.length+1) sCap e-(l.length+1))=cur
  have hcs:cur.size=grownCap w (l.length+1) sCap e:=by
   rw[←hcur]
   simp only[Array.size_append,List.size_toArray,size_zeroCells,hzc,List.length_singleton,hol]
   omega
  have hget:∀k,k<olds.length→cur[k]?=olds[k]?:=fun k hk=>by
   rw[←hcur,←Array.getElem?_toList]
   simp only[Array.toList_append]
   rw[Qx,Qz (by simpa using hk)]
  have hget0:cur[l.length]?=some v0:=by
   rw[←hcur,←Array.getElem?_toList]
   simp only[Array.toList_append]
   rw[Qx,QE (by simp [hol])]
   simp [hol]
  have hgn:(w.drew.alloc (.cells cur e)).heap[w.heap.size]?=some (.cells cur e (0,0)):=by
   show (w.heap.push (.cells cur e))[w.heap.size]?=_
   simp
  have hold:∀b,b<w.heap.size→(w.drew.alloc (.cells cur e)).heap[b]?=w.heap[b]?:=fun b hb=>by
   show (w.heap.push (.cells cur e))[b]?=_
   rw[Array.getElem?_push_lt hb];simp [hb]
  obtain⟨k1,k2⟩:=Qhs (F':=Fr F n) (w':=w.drew.alloc (.cells cur e)) h (S:=S) (j:=j) hj h0 (Fr.ne (k:=0) (by omega)) (b:=w.heap.size) (tot:=cur.size) h1 h2
   ⟨rfl,rfl,rfl,by show w.heap.size≤(w.heap.push _).size;simp,fun b hb _=>hold b hb,fun b c e fr hg=>⟨c,by rw[hold b ((QB.1 hg).1)];exact hg,rfl⟩⟩ hgn
   (.inl ⟨rfl,by show w.heap.size<(w.heap.push _).size;simp⟩) (Qg _) (by omega) f2 hget0 hdr hos (fun k xs hk=>by
    obtain⟨v,os,r1,r2,r3⟩:=hel k xs hk
    refine⟨v,os,by rw[hget k (Qp.1 r1).1];exact r1,r2,fun c hc=>?_⟩
    obtain⟨i',q1,q2⟩:=r3 c hc
    exact⟨by have:=hlt _ _ q2;omega,i',q1,q2⟩) (fun k1 k2 xs zs c p q r s g1 g2 c1 c2=>by
    rw[hget k1 (by have:=(Qp.1 g1).1;omega)] at c1
    rw[hget k2 (by have:=(Qp.1 g2).1;omega)] at c2
    exact hdd k1 k2 xs zs c p q r s g1 g2 c1 c2)
  exact⟨_,_,_,.inl rfl,k1,k2,by simp only[MR];exact .inr ⟨_,_,_,0,_,Xe,rfl,hge,hle,by omega,fun _=>by omega⟩⟩
 --a row that has room,or has not
 have row:∀(id j sz:Nat)(l:List (Option (List D)))(ys:List D)(b tot cap:Nat)(cur:Array Value)(ty:TypeId)(v0:Value)(os0:List Nat),id≠j→OB κ hp w id b→w.heap[b]?=some (.cells cur ty (0,0))→tot≤cur.size→Act.eval ⟨tm,df⟩ xo=.slice (some ⟨b,0,none⟩) l.length cap→
   l.length≤cap→cap≤maxLen→cap≤tot→Src P w i.size 1 (Act.eval ⟨tm,df⟩ yo) [v0]→DR w (Im B κ hp w) (.arr sz ys) v0 os0→(∀c∈os0,OB κ hp w j c)→
   hp'=up (rm (rm hp id) j) n (.nst sz (l++[some ys]) none)→Ya (l.length+1) i.bytes=true→d=.sl n 0 (l.length+1)→
   (∀(i:Nat)(xs:List D),l[i]?=some (some xs)→∃v os,cur[i]?=some v∧DR w (Im B κ hp w) (.arr sz xs) v os∧∀c∈os,c≠b∧OB κ hp w id c)→
   (∀(i j:Nat)(xs ys:List D)(c p q r s:Nat),l[i]?=some (some xs)→l[j]?=some (some ys)→cur[i]?=some (Value.slice (some ⟨c,0,none⟩) p q)→cur[j]?=some (Value.slice (some ⟨c,0,none⟩) r s)→i=j)→
   Res P B κ hp hp' (Fr F n) w (((Builtin.append_ #[t,u] o.type #[Act.eval ⟨tm,df⟩ xo,Act.eval ⟨tm,df⟩ yo]).run P w).andThen fun v w'=>.ok (.value v) w') d:=by
  intro id j sz l ys b tot cap cur ty v0 os0 hij hob hg htot hvx q1 q2 q3 hsrc hdr hos hh XM hd hel hdd
  have h1:lk hp' n=some (.nst sz (l++[some ys]) none):=by rw[hh,Xw,if_pos rfl]
  have h2:∀k,k≠n→∀e,lk hp' k=some e→¬(k=id∨k=j)∧lk hp k=some e:=fun k hk e he=>by
   rw[hh,Xw,if_neg hk,Yo] at he
   split at he
   ·cases he
   ·rename_i n1
    rw[Yo] at he
    split at he
    ·cases he
    ·rename_i n2
     exact⟨fun h=>h.elim n2 n1,he⟩
  by_cases hroom:l.length+1≤cap
  ·rw[hvx,Qhn (ty:=o.type) ht hu hi hg hsrc hroom (by rw[hsz];simp;omega)]
   simp only[Result.andThen_ok]
   subst hd
   rw[hsz,Nat.mul_one]
   have hrow:(cur.toList.take l.length++[v0]++cur.toList.drop (l.length+[v0].length)).toArray=cur.set! l.length v0:=by
    apply Array.ext'
    simp only[Array.set!_eq_setIfInBounds,Array.toList_setIfInBounds]
    rw[List.set_eq_take_append_cons_drop,if_pos (by simp;omega)]
    simp
   rw[hrow]
   have hst:=QaB w b (cur.set! l.length v0) hg (by simp)
   have hgn:(w.setRow b (cur.set! l.length v0)).heap[b]?=some (.cells (cur.set! l.length v0) ty (0,0)):=setRow_heap w b cur _ ty _ hg
   have hget:∀k,k<l.length→(cur.set! l.length v0)[k]?=cur[k]?:=fun k hk=>by
    simp only[Array.set!_eq_setIfInBounds]
    rw[QK (by omega)]
   obtain⟨k1,k2⟩:=Qhs (F':=Fr F n) h (S:=(·=id)) (j:=j) (fun e=>hij e.symm) h0 (Fr.ne (k:=0) (by omega)) (b:=b) (tot:=tot) h1 h2 hst hgn (.inr ⟨id,rfl,hob⟩) (by simpa using htot) (by omega) (QaA XM).2
    (by simp only[Array.set!_eq_setIfInBounds];rw[QO (by omega)]) hdr hos (fun k xs hk=>by
     obtain⟨v,os,r1,r2,r3⟩:=hel k xs hk
     exact⟨v,os,by rw[hget k (Qp.1 hk).1];exact r1,r2,fun c hc=>⟨(r3 c hc).1,id,rfl,(r3 c hc).2⟩⟩) (fun k1 k2 xs zs c p q r s g1 g2 c1 c2=>by
     rw[hget k1 (Qp.1 g1).1] at c1
     rw[hget k2 (Qp.1 g2).1] at c2
     exact hdd k1 k2 xs zs c p q r s g1 g2 c1 c2)
   exact⟨_,_,_,.inl rfl,k1,k2,by simp only[MR];exact .inr ⟨_,_,_,0,_,Xe,rfl,hroom,q2,by omega,fun _=>by omega⟩⟩
  ·have hM:Mem w b 0 (cur.toList.take l.length):=Mem.of_cells hg fun k u hk=>by
    rw[List.getElem?_take] at hk
    split at hk
    ·simpa using hk
    ·cases hk
   have hlen:(cur.toList.take l.length).length=l.length:=by simp;omega
   have hget:∀k,k<l.length→(cur.toList.take l.length)[k]?=cur[k]?:=fun k hk=>by
    rw[List.getElem?_take,if_pos hk];simp
   refine grow (·=id) j sz l ys (some ⟨b,0,none⟩) cap (cur.toList.take l.length) v0 os0 (fun e=>hij e.symm) hsrc hdr hos h1 h2 hvx hlen ?_ (by omega) XM hd (fun k xs hk=>?_) (fun k1 k2 xs zs c p q r s g1 g2 c1 c2=>?_)
   ·have:=run_loadCells_list (P:=P) w.drew ⟨b,0,none⟩ (cur.toList.take l.length) (fun j v hj=>by rw[Zt];exact hM j v hj)
    rw[hlen] at this
    simp [Builtin.firstCells,hsz,this]
   ·obtain⟨v,os,r1,r2,r3⟩:=hel k xs hk
    exact⟨v,os,by rw[hget k (Qp.1 hk).1];exact r1,r2,fun c hc=>⟨id,rfl,(r3 c hc).2⟩⟩
   ·rw[hget k1 (Qp.1 g1).1] at c1
    rw[hget k2 (Qp.1 g2).1] at c2
    exact hdd k1 k2 xs zs c p q r s g1 g2 c1 c2
 have hpj:∀{j sz:Nat}{ys:List D}{S:Nat→Prop}{hp1:qHp},hp'=up (rm hp1 j) n (.nst sz [some ys] none)→(∀k e,lk hp1 k=some e→¬S k∧lk hp k=some e)→lk hp' n=some (.nst sz [some ys] none)∧∀k,k≠n→∀e,lk hp' k=some e→¬(S k∨k=j)∧lk hp k=some e:=by
  intro j sz ys S hp1 hh hS
  refine⟨by rw[hh,Xw,if_pos rfl],fun k hk e he=>?_⟩
  rw[hh,Xw,if_neg hk,Yo] at he
  split at he
  ·cases he
  ·rename_i n1
   obtain⟨a,b⟩:=hS k e he
   exact⟨fun h=>h.elim a n1,b⟩
 simp only[eff] at he
 split at he
 ·rename_i s0 j lo k hdx hdy
  split at he
  ·rename_i sz ys hl
   split at he
   ·rename_i hcond
    obtain⟨rfl,rfl,XM⟩:=hcond
    simp only[Qb,Qc] at he
    obtain⟨rfl,rfl⟩:=he
    obtain⟨v0,os0,hsrc,hdr,hos⟩:=elem hl hdy
    have hvx:=Xd (df:=df) hs hx hdx
    simp only[MR] at hvx
    obtain⟨a1,a2⟩:=hpj (S:=fun _=>False) rfl (fun k e he=>⟨fun f=>f,he⟩)
    exact grow (fun _=>False) j sz [] ys none 0 [] v0 os0 (fun f=>f) hsrc hdr hos a1 a2 hvx rfl (by simp [Builtin.firstCells]) (by simp) (by simpa using XM) rfl (by simp) (by simp)
   ·cases he
  ·cases he
 ·rename_i id lo' len j lo k hdx hdy
  split at he
  ·rename_i sz' l sz ys hl hl2
   split at he
   ·rename_i hcond
    obtain⟨rfl,rfl,rfl,rfl,rfl,hij,XM⟩:=hcond
    simp only[Qb,Qc] at he
    obtain⟨rfl,rfl⟩:=he
    obtain⟨v0,os0,hsrc,hdr,hos⟩:=elem hl2 hdy
    have hvx:=Xd (df:=df) hs hx hdx
    have hent:=h.ent id _ hl
    simp only[ER] at hent
    obtain⟨_,_,b,tot,cur,ty,hk,hg,g1,g2,g3,g4⟩:=hent
    simp only[MR,hk,Qb,reduceCtorEq,false_and,exists_false,false_or,KI.arr.injEq] at hvx
    obtain⟨b',_,_,off,cap,⟨rfl,rfl,rfl⟩,hvx,q1,q2,q3,q4⟩:=hvx
    have hoff:off=0:=by simpa using q4
    subst hoff
    refine row id j sz' l ys b tot cap cur ty v0 os0 hij ⟨_,_,hl,rfl,hk,.inl rfl⟩ hg g1 hvx q1 q2 (by omega) hsrc hdr hos rfl XM rfl (fun k xs hk2=>?_) g4
    obtain⟨v,os,r1,r2,r3⟩:=g3 k xs hk2
    refine⟨v,os,r1,r2,fun c hc=>⟨fun e=>r3 (e▸hc),?_⟩⟩
    have r2':=r2
    simp only[DR] at r2'
    rcases r2'.2 with⟨_,_,rfl⟩|⟨c',cap,_,_,_,rfl,rfl,_⟩
    ·cases hc
    ·rw[Qm] at hc
     subst hc
     exact⟨_,_,hl,rfl,hk,.inr ⟨cur,ty,k,xs,_,_,hg,hk2,r1⟩⟩
   ·cases he
  ·rename_i s' sz ys hl hl2
   split at he
   ·rename_i hcond
    obtain⟨rfl,rfl,rfl,rfl,rfl,XM⟩:=hcond
    simp only[Qb,Qc] at he
    obtain⟨rfl,rfl⟩:=he
    obtain⟨v0,os0,hsrc,hdr,hos⟩:=elem hl2 hdy
    have hij:id≠j:=fun e=>by rw[e,hl2] at hl;cases hl
    have hvx:=Xd (df:=df) hs hx hdx
    have hent:=h.ent id _ hl
    simp only[ER] at hent
    simp only[MR] at hvx
    rcases hent.2 with⟨hk,_⟩|⟨b,tot,cur,ty,us,hk,hg,g1,g2,g3⟩
    ·rw[hk] at hvx
     rcases hvx with⟨_,_,hvx,_⟩|⟨_,_,_,_,_,hvx,_⟩
     ·obtain⟨a1,a2⟩:=hpj (S:=(·=id)) (hp1:=rm hp id) rfl (fun k e he=>by
       rw[Yo] at he
       split at he
       ·cases he
       ·rename_i n1;exact⟨n1,he⟩)
      exact grow (·=id) j sz [] ys none 0 [] v0 os0 (fun e=>hij e.symm) hsrc hdr hos a1 a2 hvx rfl (by simp [Builtin.firstCells]) (by simp) (by simpa using XM) rfl (by simp) (by simp)
     ·cases hvx
    ·rw[hk] at hvx
     rcases hvx with⟨_,hvx,_⟩|⟨b',_,_,off,cap,hvx,hv,q1,q2,q3,q4⟩
     ·cases hvx
     ·simp only[Qb,KI.arr.injEq] at hvx
      obtain⟨rfl,rfl,rfl⟩:=hvx
      have hoff:off=0:=by simpa using q4
      subst hoff
      exact row id j sz [] ys b tot cap cur ty v0 os0 hij ⟨_,_,hl,rfl,hk,.inl rfl⟩ hg g1 hv q1 q2 (by omega) hsrc hdr hos rfl (by simpa using XM) rfl (by simp) (by simp)
   ·cases he
  ·cases he
 ·cases he
end
end Go.Am
namespace Go.Am
open Go
section
variable {P:Program} {B:Base} {κ:Nat→Option KI} {hp hp':qHp} {F:Nat→Prop} {w:World} {sl:qSl} {tm:Array Value} {df:List Deferred} {n:Nat} {d:D}
theorem MR.str{I:Nat→Prop}{s:ByteArray}{v:Value}:MR w I κ (.str s) v↔v=.string s:=by simp only[MR]
theorem Qht(a b:ByteArray):(a.toList==b.toList)=decide (a=b):=by
 rw[ByteArray.toList_eq,ByteArray.toList_eq]
 by_cases h:a=b
 ·subst h;simp
 ·rw[Qf h]
  rw[beq_eq_false_iff_ne]
  intro e
  apply h
  cases a;cases b
  simp only at e
  congr 1
  exact Array.ext' e
theorem QcX(hs:RS B κ hp w sl tm){xo yo:Operand}{x y:X}(hx:cX xo=some x)(hy:cX yo=some y){ds:List D}(he:QU (ev sl) [x,y]=some ds):
  ∃a b,ds=[a,b]∧MR w (Im B κ hp w) κ a (Act.eval ⟨tm,df⟩ xo)∧MR w (Im B κ hp w) κ b (Act.eval ⟨tm,df⟩ yo):=by
 simp only[QU] at he
 cases h1:ev sl x with
 |none=>simp [h1] at he
 |some a=>
  cases h2:ev sl y with
  |none=>simp [h1,h2] at he
  |some b=>
   simp only[h1,h2,Qb] at he
   exact⟨a,b,he.symm,Xd (df:=df) hs hx h1,Xd (df:=df) hs hy h2⟩
theorem QnD(hs:RS B κ hp w sl tm){xo:Operand}{x:X}(hx:cX xo=some x){ds:List D}(he:QU (ev sl) [x]=some ds):
  ∃a,ds=[a]∧MR w (Im B κ hp w) κ a (Act.eval ⟨tm,df⟩ xo):=by
 simp only[QU] at he
 cases h1:ev sl x with
 |none=>simp [h1] at he
 |some a=>
  simp only[h1,Qb] at he
  exact⟨a,he.symm,Xd (df:=df) hs hx h1⟩
theorem QnE(hs:RS B κ hp w sl tm){xo yo zo:Operand}{x y z:X}(hx:cX xo=some x)(hy:cX yo=some y)(hz:cX zo=some z){ds:List D}(he:QU (ev sl) [x,y,z]=some ds):
  ∃a b c,ds=[a,b,c]∧MR w (Im B κ hp w) κ a (Act.eval ⟨tm,df⟩ xo)∧MR w (Im B κ hp w) κ b (Act.eval ⟨tm,df⟩ yo)∧MR w (Im B κ hp w) κ c (Act.eval ⟨tm,df⟩ zo):=by
 simp only[QU] at he
 cases h1:ev sl x with
 |none=>simp [h1] at he
 |some a=>
  cases h2:ev sl y with
  |none=>simp [h1,h2] at he
  |some b=>
   cases h3:ev sl z with
   |none=>simp [h1,h2,h3] at he
   |some c=>
    simp only[h1,h2,h3,Qb] at he
    exact⟨a,b,c,he.symm,Xd (df:=df) hs hx h1,Xd (df:=df) hs hy h2,Xd (df:=df) hs hz h3⟩
theorem QcY{f:SF}{xs:List X}(he:eff n sl hp (.sf f xs)=some (d,hp')):hp'=hp∧∃ds,QU (ev sl) xs=some ds∧sfD f ds=some d:=by
 simp only[eff] at he
 cases h:QU (ev sl) xs with
 |none=>simp [h] at he
 |some ds=>
  simp only[h,Qi,Qc] at he
  obtain⟨a,h1,rfl,rfl⟩:=he
  exact⟨rfl,ds,rfl,h1⟩
theorem QeG(h:RH B κ hp F w)(hs:RS B κ hp w sl tm){o:Oper}{op:BinOp}{f:SF}(hf:op=.eql∧f=.eql∨op=.neq∧f=.neq∨op=.add∧f=.cat){t u:TypeId}{xo yo:Operand}(ho:o.op=.binOp op t xo yo u){x y:X}(hx:cX xo=some x)(hy:cX yo=some y)
  (he:eff n sl hp (.sf f [x,y])=some (d,hp')):Res P B κ hp hp' (Fr F n) w ((execOp (Act.eval ⟨tm,df⟩) o).run P w) d:=by
 obtain⟨rfl,ds,hds,hd⟩:=QcY he
 obtain⟨a,b,rfl,ha,hb⟩:=QcX (df:=df) hs hx hy hds
 rcases hf with⟨rfl,rfl⟩|⟨rfl,rfl⟩|⟨rfl,rfl⟩<;>cases a<;>cases b<;>simp only[sfD,Qb,reduceCtorEq] at hd
 ·rename_i a b
  rw[MR.str] at ha hb
  subst hd
  refine Res.pure h Fr.sub (v:=.bool (decide (a=b))) ?_ (by simp [MR])
  simp [execOp,ho,ha,hb,eqGuard,binOp_string_eql,Qht]
 ·rename_i a b
  rw[MR.str] at ha hb
  subst hd
  refine Res.pure h Fr.sub (v:=.bool (!decide (a=b))) ?_ (by simp [MR])
  simp [execOp,ho,ha,hb,eqGuard,binOp_string_neq,Qht]
 ·rename_i a b
  rw[MR.str] at ha hb
  split at hd
  ·rename_i hc
   simp only[Qb] at hd
   subst hd
   refine Res.pure h Fr.sub (v:=.string (a++b)) ?_ (by simp [MR])
   have:=run_string_add_sum (P:=P) (w:=w) a b (by omega)
   simp [execOp,ho,ha,hb,eqGuard,binOp_string_add,this]
  ·cases hd
theorem QnF(h:RH B κ hp F w)(hs:RS B κ hp w sl tm){o:Oper}{c:Call}(ho:o.op=.call c)(hc:c.callee=.builtin .len){t:TypeId}(ht:c.argTypes.toList=[t]){xo:Operand}(ha:c.args.toList=[xo]){x:X}(hx:cX xo=some x)(hu:P.underlying t=some .string)
  (he:eff n sl hp (.sf .len [x])=some (d,hp')):Res P B κ hp hp' (Fr F n) w ((execOp (Act.eval ⟨tm,df⟩) o).run P w) d:=by
 obtain⟨rfl,ds,hds,hd⟩:=QcY he
 obtain⟨a,rfl,ha1⟩:=QnD (df:=df) hs hx hds
 have ht':c.argTypes=#[t]:=by apply Array.ext';simpa using ht
 have ha':c.args=#[xo]:=by apply Array.ext';simpa using ha
 cases a<;>simp only[sfD,Qb,reduceCtorEq] at hd
 rename_i a
 rw[MR.str] at ha1
 subst hd
 refine Res.pure h Fr.sub (v:=.int .i64 a.size) ?_ (by simp [MR])
 simp [execOp,ho,resolve,hc,ha',ht',invoke,builtin,Builtin.len_,run_underlying hu,ha1,goInt]
theorem QnG(h:RH B κ hp F w)(hs:RS B κ hp w sl tm){o:Oper}{t:TypeId}{xo io:Operand}(ho:o.op=.index t xo io){x i:X}(hx:cX xo=some x)(hi:cX io=some i)(hu:P.underlying t=some .string)
  (he:eff n sl hp (.sf .idx [x,i])=some (d,hp')):Res P B κ hp hp' (Fr F n) w ((execOp (Act.eval ⟨tm,df⟩) o).run P w) d:=by
 obtain⟨rfl,ds,hds,hd⟩:=QcY he
 obtain⟨a,b,rfl,ha,hb⟩:=QcX (df:=df) hs hx hi hds
 cases a<;>cases b<;>simp only[sfD,reduceCtorEq] at hd
 rename_i s k j
 cases k<;>simp only[sfD,reduceCtorEq] at hd
 rw[MR.str] at ha
 rw[MR.int] at hb
 split at hd
 ·rename_i h0
  simp only[Qi] at hd
  obtain⟨u,hu2,rfl⟩:=hd
  refine Res.pure h Fr.sub (v:=.int .u8 u.toNat) ?_ (by simp [MR])
  simp [execOp,ho,Instr.index,asIntOf,hb,ha,run_underlying hu,h0,hu2]
 ·cases hd
theorem QeH(h:RH B κ hp F w)(hs:RS B κ hp w sl tm){o:Oper}{t:TypeId}{xo:Operand}{lo hi:Option Operand}(ho:o.op=.slice t xo lo hi none)(hu:P.underlying t=some .string){x:X}(hx:cX xo=some x){lo' hi':Option X}(hl:Zf lo=some lo')(hh:Zf hi=some hi'){f:SF}{xs:List X}
  (hf:(∃l h,lo'=some l∧hi'=some h∧f=.sli true true∧xs=[x,l,h])∨(∃l,lo'=some l∧hi'=none∧f=.sli true false∧xs=[x,l])∨(∃h,lo'=none∧hi'=some h∧f=.sli false true∧xs=[x,h]))
  (he:eff n sl hp (.sf f xs)=some (d,hp')):Res P B κ hp hp' (Fr F n) w ((execOp (Act.eval ⟨tm,df⟩) o).run P w) d:=by
 have some_inv:∀{o:Option Operand}{y:X},Zf o=some (some y)→∃yo,o=some yo∧cX yo=some y:=fun {o y} h=>by
  cases o with
  |none=>simp [Zf] at h
  |some yo=>
   simp only[Zf,Qi,Qb] at h
   obtain⟨a,h,rfl⟩:=h
   exact⟨yo,rfl,h⟩
 have none_inv:∀{o:Option Operand},Zf o=some none→o=none:=fun {o} h=>by
  cases o with
  |none=>rfl
  |some yo=>simp [Zf] at h
 obtain⟨rfl,ds,hds,hd⟩:=QcY he
 rcases hf with⟨l,h',rfl,rfl,rfl,rfl⟩|⟨l,rfl,rfl,rfl,rfl⟩|⟨h',rfl,rfl,rfl,rfl⟩
 ·obtain⟨l0,rfl,hl0⟩:=some_inv hl
  obtain⟨h0,rfl,hh0⟩:=some_inv hh
  obtain⟨a,b,c,rfl,ha,hb,hc⟩:=QnE (df:=df) hs hx hl0 hh0 hds
  cases a<;>cases b<;>cases c<;>simp only[sfD,reduceCtorEq] at hd
  rename_i s k1 j1 k2 j2
  cases k1<;>cases k2<;>simp only[sfD,reduceCtorEq] at hd
  rw[MR.str] at ha
  rw[MR.int] at hb hc
  split at hd
  ·rename_i h1
   simp only[Qb] at hd
   subst hd
   refine Res.pure h Fr.sub (v:=.string (s.extract j1.toNat j2.toNat)) ?_ (by simp [MR])
   have c1:0≤j2∧j2≤s.size:=by omega
   have c2:0≤j1∧j1≤j2.toNat:=by omega
   simp [execOp,ho,Instr.sliceAt,Instr.slice,run_underlying hu,ha,hb,hc,Instr.sliceBounds,Instr.sliceBound,asIntOf,c1,c2]
   intro hq
   omega
  ·cases hd
 ·obtain⟨l0,rfl,hl0⟩:=some_inv hl
  obtain rfl:=none_inv hh
  obtain⟨a,b,rfl,ha,hb⟩:=QcX (df:=df) hs hx hl0 hds
  cases a<;>cases b<;>simp only[sfD,reduceCtorEq] at hd
  rename_i s k1 j1
  cases k1<;>simp only[sfD,reduceCtorEq] at hd
  rw[MR.str] at ha
  rw[MR.int] at hb
  split at hd
  ·rename_i h1
   simp only[Qb] at hd
   subst hd
   refine Res.pure h Fr.sub (v:=.string (s.extract j1.toNat s.size)) ?_ (by simp [MR])
   have c2:0≤j1∧j1≤s.size:=by omega
   simp [execOp,ho,Instr.sliceAt,Instr.slice,run_underlying hu,ha,hb,Instr.sliceBounds,Instr.sliceBound,asIntOf,c2]
  ·cases hd
 ·obtain rfl:=none_inv hl
  obtain⟨h0,rfl,hh0⟩:=some_inv hh
  obtain⟨a,b,rfl,ha,hb⟩:=QcX (df:=df) hs hx hh0 hds
  cases a<;>cases b<;>simp only[sfD,reduceCtorEq] at hd
  rename_i s k1 j1
  cases k1<;>simp only[sfD,reduceCtorEq] at hd
  rw[MR.str] at ha
  rw[MR.int] at hb
  split at hd
  ·rename_i h1
   simp only[Qb] at hd
   subst hd
   refine Res.pure h Fr.sub (v:=.string (s.extract 0 j1.toNat)) ?_ (by simp [MR])
   have c2:0≤j1∧j1≤s.size:=by omega
   simp [execOp,ho,Instr.sliceAt,Instr.slice,run_underlying hu,ha,hb,Instr.sliceBounds,Instr.sliceBound,asIntOf,c2]
  ·cases hd
end
end Go.Am
