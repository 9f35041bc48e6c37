/- Slices that are made, cut, stored into and appended to. -/
import Derived.Test.YtgllpjliaepbdaaGreatAmPc
import Derived.Lib.AppendZerosOnto
namespace Go.Am
open Go
section
variable {P:Program} {B:Base} {κ:Nat→Option KI} {hp hp':qHp} {F:Nat→Prop} {w:World} {sl:qSl} {tm:Array Value} {df:List Deferred} {n:Nat} {d:D}
theorem QfU{s:Sem Value}{v:Value}{w':World}(h:s.run P w=.ok v w'):(do return Next.value (←s):Sem Next).run P w=.ok (.value v) w':=by
 rw[Sem.run_bind,h];rfl
theorem Qnt(h:RH B κ hp F w)(hs:RS B κ hp w sl tm){o:Oper}{xo:Operand}(ho:o.op=.move xo∨o.op=.assign xo){x:X}(hx:cX xo=some x)
  (he:eff n sl hp (.mov x)=some (d,hp')):Res P B κ hp hp' (Fr F n) w ((execOp (Act.eval ⟨tm,df⟩) o).run P w) d:=by
 simp only[eff] at he
 cases hd:ev sl x with
 |none=>simp [hd] at he
 |some dx=>
  simp only[hd,Option.map_some,Qb,Qe] at he
  obtain⟨rfl,rfl⟩:=he
  refine Res.pure h Fr.sub (v:=Act.eval ⟨tm,df⟩ xo) ?_ (XD hs hx hd)
  rcases ho with ho|ho<;>simp [execOp,ho]
theorem QP5(h:RH B κ hp F w){o:Oper}(ho:o.op=.assign (.const (.slice none 0 0))){s:Nat}
  (he:eff n sl hp (.mov (.k (.nl s)))=some (d,hp')):Res P B κ hp hp' (Fr F n) w ((execOp (Act.eval ⟨tm,df⟩) o).run P w) d:=by
 simp only[eff,ev,Option.map_some,Qb,Qe] at he
 obtain⟨rfl,rfl⟩:=he
 exact Res.pure h Fr.sub (v:=.slice none 0 0) (by simp [execOp,ho,Act.eval]) (by simp [MR])
theorem QP6(h:RH B κ hp F w)(hs:RS B κ hp w sl tm){o:Oper}{co ao bo:Operand}(ho:o.op=.pick co ao bo){c a b:X}(hc:cX co=some c)(ha:cX ao=some a)(hb:cX bo=some b)
  (he:eff n sl hp (.pick c a b)=some (d,hp')):Res P B κ hp hp' (Fr F n) w ((execOp (Act.eval ⟨tm,df⟩) o).run P w) d:=by
 simp only[eff] at he
 split at he
 ·rename_i hcv
  have hv:=XD (df:=df) hs hc hcv
  rw[MR.bool] at hv
  cases hd:ev sl a with
  |none=>simp [hd] at he
  |some dx=>
   simp only[hd,Option.map_some,Qb,Qe] at he
   obtain⟨rfl,rfl⟩:=he
   refine Res.pure h Fr.sub (v:=Act.eval ⟨tm,df⟩ ao) ?_ (XD hs ha hd)
   simp [execOp,ho,hv,asBool]
 ·rename_i hcv
  have hv:=XD (df:=df) hs hc hcv
  rw[MR.bool] at hv
  cases hd:ev sl b with
  |none=>simp [hd] at he
  |some dx=>
   simp only[hd,Option.map_some,Qb,Qe] at he
   obtain⟨rfl,rfl⟩:=he
   refine Res.pure h Fr.sub (v:=Act.eval ⟨tm,df⟩ bo) ?_ (XD hs hb hd)
   simp [execOp,ho,hv,asBool]
 ·cases he
theorem QP7(h:RH B κ hp F w)(hs:RS B κ hp w sl tm){o:Oper}{t:TypeId}{xo:Operand}(ho:o.op=.unOp .not t xo){x:X}(hx:cX xo=some x)
  (he:eff n sl hp (.not x)=some (d,hp')):Res P B κ hp hp' (Fr F n) w ((execOp (Act.eval ⟨tm,df⟩) o).run P w) d:=by
 simp only[eff] at he
 split at he
 ·rename_i b hd
  have hv:=XD (df:=df) hs hx hd
  rw[MR.bool] at hv
  simp only[Qb,Qe] at he
  obtain⟨rfl,rfl⟩:=he
  refine Res.pure h Fr.sub (v:=.bool (!b)) ?_ (by simp [MR])
  simp [execOp,ho,hv,Op.unary]
 ·cases he
theorem QP8(h:RH B κ hp F w)(hs:RS B κ hp w sl tm){o:Oper}{s t:TypeId}{xo:Operand}(ho:o.op=.convert s t xo){x:X}(hx:cX xo=some x){k0 k:IntKind}(hu0:P.underlying s=some (.int k0))(hu:P.underlying t=some (.int k))
  (he:eff n sl hp (.conv k x)=some (d,hp')):Res P B κ hp hp' (Fr F n) w ((execOp (Act.eval ⟨tm,df⟩) o).run P w) d:=by
 simp only[eff] at he
 split at he
 ·rename_i k1 m hd
  have hv:=XD (df:=df) hs hx hd
  rw[MR.int] at hv
  simp only[Qb,Qe] at he
  obtain⟨rfl,rfl⟩:=he
  refine Res.pure h Fr.sub (v:=.int k (k.wrap m)) ?_ (by simp [MR])
  simp [execOp,ho,hv,convert,run_underlying hu0,run_underlying hu,Conv.intToInt]
 ·cases he
theorem QP9(h:RH B κ hp F w)(hs:RS B κ hp w sl tm){o:Oper}{op:BinOp}{t u:TypeId}{xo yo:Operand}(ho:o.op=.binOp op t xo yo u){x y:X}(hx:cX xo=some x)(hy:cX yo=some y)
  (he:eff n sl hp (.bin op x y)=some (d,hp')):Res P B κ hp hp' (Fr F n) w ((execOp (Act.eval ⟨tm,df⟩) o).run P w) d:=by
 simp only[eff] at he
 split at he
 ·rename_i a b ha hb
  cases hbd:YA op a b with
  |none=>simp [hbd] at he
  |some d'=>
   simp only[hbd,Option.map_some,Qb,Qe] at he
   obtain⟨rfl,rfl⟩:=he
   obtain⟨v,h1,h2⟩:=QPL (P:=P) (op:=op) (t:=t) (x:=xo) (y:=yo) (XD (df:=df) hs hx ha) (XD (df:=df) hs hy hb) hbd
   refine Res.pure h Fr.sub (v:=v) ?_ (h2 _)
   simp only[execOp,ho]
   exact QfU h1
 ·cases he
theorem Qnu(h:RH B κ hp F w)(hs:RS B κ hp w sl tm){o:Oper}{neg:Bool}{t u:TypeId}{xo yo:Operand}(ho:o.op=.binOp (if neg then .neq else .eql) t xo yo u){x y:X}(hx:cX xo=some x)(hy:cX yo=some y)(ht:P.underlying t=some .bool)
  (he:eff n sl hp (.eqB neg x y)=some (d,hp')):Res P B κ hp hp' (Fr F n) w ((execOp (Act.eval ⟨tm,df⟩) o).run P w) d:=by
 simp only[eff] at he
 split at he
 ·rename_i a b ha hb
  cases hbd:QaR neg a b with
  |none=>simp [hbd] at he
  |some d'=>
   simp only[hbd,Option.map_some,Qb,Qe] at he
   obtain⟨rfl,rfl⟩:=he
   obtain⟨v,h1,h2⟩:=QPM (P:=P) (t:=t) ht (x:=xo) (y:=yo) (XD (df:=df) hs hx ha) (XD (df:=df) hs hy hb) hbd
   refine Res.pure h Fr.sub (v:=v) ?_ (h2 _)
   simp only[execOp,ho]
   exact QfU h1
 ·cases he
theorem Qnv(h:RH B κ hp F w)(hs:RS B κ hp w sl tm){o:Oper}{neg:Bool}{t u:TypeId}{xo yo:Operand}(ho:o.op=.binOp (if neg then .neq else .eql) t xo yo u){x y:X}(hx:cX xo=some x)(hy:cX yo=some y){m:Nat}(ht:Qdg P t=some m)
  (he:eff n sl hp (.eqA m neg x y)=some (d,hp')):Res P B κ hp hp' (Fr F n) w ((execOp (Act.eval ⟨tm,df⟩) o).run P w) d:=by
 simp only[eff] at he
 split at he
 ·rename_i a b ha hb
  split at he
  ·rename_i hl
   cases hc:YN a b with
   |none=>simp [hc] at he
   |some c=>
    simp only[hc,Option.map_some,Qb,Qe] at he
    obtain⟨rfl,rfl⟩:=he
    obtain⟨v,h1,h2⟩:=QPN (neg:=neg) (P:=P) (t:=t) ht (x:=xo) (y:=yo) (XD (df:=df) hs hx ha) (XD (df:=df) hs hy hb) hc hl
    refine Res.pure h Fr.sub (v:=v) ?_ (h2 _)
    simp only[execOp,ho]
    exact QfU h1
  ·cases he
 ·cases he
theorem QQa(h:RH B κ hp F w)(hs:RS B κ hp w sl tm)(hF:∀k,k<64→F (n+k)){o:Oper}{t e:TypeId}{lo co:Operand}(ho:o.op=.makeSlice t lo co)(hsame:QfG lo co=true)(hu:P.underlying t=some (.slice e)){s:Nat}(hz:XG P e=some s){i:TypeInfo}(hi:P.info? e=some i)
  {z:D} (hze:JO P e=some z) (hoe:XT s z=true) {l:X} (hl:cX lo=some l) (he:eff n sl hp (.makeSl s i.bytes z l)=some (d,hp')):
  Res P B κ hp hp' (Fr F n) w ((execOp (Act.eval ⟨tm,df⟩) o).run P w) d:=by
 simp only[eff] at he
 cases hd:ev sl l with
 |none=>simp [hd] at he
 |some dl=>
  cases hj:asI dl with
  |none=>simp [hd,hj] at he
  |some m=>
   simp only[hd,Option.bind_some,hj] at he
   split at he
   ·rename_i hc
    simp only[Qb,Qe] at he
    obtain⟨rfl,rfl⟩:=he
    have hv:=XD (df:=df) hs hl hd
    rw[Qbp hj,MR.int] at hv
    have hv2:Act.eval ⟨tm,df⟩ co=.int .i64 m:=by
     rw[←hv]
     unfold QfG at hsame
     split at hsame<;>simp at hsame<;>subst hsame<;>rfl
    obtain⟨f1,f2⟩:=Qcf hc.2
    obtain⟨v,hzv,hzz,g1,g2⟩:=Qdt (w:=w) (I:=Im B κ hp w) hze hoe
    have hzero:i.zero=some v:=by simpa [hi] using hzz
    have hsz:i.size=s:=by simpa [XG,hi] using hz
    have hP:=PE.replicate g1 g2 m.toNat
    have hvs:v.cells.size=s:=by simpa using g2
    have hb:(i.bytes:Int)*m≤281474976710656:=by
     have h1:((i.bytes*m.toNat:Nat):Int)≤281474976710656:=by rw[Nat.mul_comm];omega
     rw[Int.natCast_mul,Int.toNat_of_nonneg hc.1] at h1
     exact h1
    have hm63:m≤9223372036854775807:=by simp only[QW] at f2;omega
    have hr:=run_make (P:=P) w t e i v hu hi hzero .i64 .i64 m m hc.1 (Int.le_refl _) hb hm63
    have hml:(madeCells v.cells (m.toNat*i.size)).toList=(List.replicate m.toNat v.cells.toList).flatten:=by
     rw[hsz,←hvs];exact Qds _ _
    refine Qdu h hF (cur:=madeCells v.cells (m.toNat*i.size)) (ty:=e) (w':=w.alloc (.cells (madeCells v.cells (m.toNat*i.size)) e)) (cap:=m.toNat) (us:=(List.replicate m.toNat v.cells.toList).flatten) rfl rfl rfl ⟨rfl,Qf _⟩ (fun j u hj=>by
     rw[←hml] at hj;simpa using hj) hP (by simp) f2 (Qf _) (by simp only[QW] at f2;simp only[maxLen];omega) (by rw[size_madeCells,hsz];exact Qf _) ?_ (Nxt.refl _ _ _ _)
    simp only[execOp,ho,hv,hv2,Sem.run_bind,hr,Result.andThen_ok,Sem.run_pure]
   ·cases he
theorem Qdv(hs:RS B κ hp w sl tm){xo:Option Operand}{x:Option X}(hx:QaT xo=some x){d0 j:Int}(hj:Y9 sl d0 x=some j):
  (xo=none∧j=d0)∨∃x0,xo=some x0∧Act.eval ⟨tm,df⟩ x0=.int .i64 j:=by
 cases xo with
 |none=>simp only[QaT,Qb] at hx;subst hx;simp only[Y9,Qb] at hj;exact .inl ⟨rfl,hj.symm⟩
 |some x0=>
  simp only[QaT] at hx
  cases hc:cX x0 with
  |none=>simp [hc] at hx
  |some y=>
   simp only[hc,Option.map_some,Qb] at hx
   subst hx
   simp only[Y9] at hj
   cases hd:ev sl y with
   |none=>simp [hd] at hj
   |some dy=>
    simp only[hd,Option.bind_some] at hj
    have hv:=XD (df:=df) hs hc hd
    rw[Qbp hj,MR.int] at hv
    exact .inr ⟨x0,rfl,hv⟩
theorem Qcg{o:Oper}{t e:TypeId}{xo:Operand}{lo hi:Option Operand}{ρ:Operand→Value}(ho:o.op=.slice t xo lo hi none)(hu:P.underlying t=some (.slice e)){s:Nat}(hz:XG P e=some s){a:Option Addr}{len cap:Nat}(hv:ρ xo=.slice a len cap)
  {l u:Int} (hl:(lo=none∧l=0)∨∃x0,lo=some x0∧ρ x0=.int .i64 l) (hh:(hi=none∧u=len)∨∃x0,hi=some x0∧ρ x0=.int .i64 u) (h0:0≤l) (h1:l≤u) (h2:u≤len) (h3:len≤cap):
  (execOp ρ o).run P w=.ok (.value (.slice (if cap=l.toNat then a else a.map (·.add (l.toNat*s))) (u.toNat-l.toNat) (cap-l.toNat))) w:=by
 have e1:(Instr.sliceBounds true len cap (lo.map ρ) (hi.map ρ) none).run P w=.ok (l.toNat,u.toNat,cap) w:=by
  rcases hl with⟨rfl,rfl⟩|⟨x0,rfl,hx0⟩<;>rcases hh with⟨rfl,rfl⟩|⟨y0,rfl,hy0⟩
  ·simp [Instr.sliceBounds]
  ·have:0≤u∧u≤(cap:Int):=by omega
   simp [Instr.sliceBounds,Instr.sliceBound,hy0,asIntOf,this]
  ·have:0≤l∧l≤(len:Int):=by omega
   simp [Instr.sliceBounds,Instr.sliceBound,hx0,asIntOf,this]
  ·have g1:0≤u∧u≤(cap:Int):=by omega
   have g2:0≤l∧l≤u:=by omega
   simp only[Instr.sliceBounds,Instr.sliceBound,hx0,hy0,Option.map_some,asIntOf]
   have g3:((u.toNat:Nat):Int)=u:=by omega
   simp [g1,g2,g3]
 simp [execOp,ho,Instr.sliceAt,Instr.slice,run_underlying hu,hv,e1,JS hz]
theorem QQb(h:RH B κ hp F w)(hs:RS B κ hp w sl tm){o:Oper}{t e:TypeId}{xo:Operand}{lo hi:Option Operand}(ho:o.op=.slice t xo lo hi none)(hu:P.underlying t=some (.slice e)){s:Nat}(hz:XG P e=some s){x:X}(hx:cX xo=some x){lx hx':Option X}(hlo:QaT lo=some lx)(hhi:QaT hi=some hx')
  (he:eff n sl hp (.slc s x lx hx')=some (d,hp')):Res P B κ hp hp' (Fr F n) w ((execOp (Act.eval ⟨tm,df⟩) o).run P w) d:=by
 simp only[eff] at he
 cases hd:ev sl x with
 |none=>simp [hd] at he
 |some dx=>
  have hv:=XD (df:=df) hs hx hd
  cases hl:Y9 sl 0 lx with
  |none=>cases dx<;>simp only[hd,hl,reduceCtorEq] at he
  |some l=>
   have hlv:=Qdv (df:=df) hs hlo hl
   cases dx<;>simp only[hd,hl,reduceCtorEq] at he
   case nl sz'=>
    split at he
    ·rename_i u hh
     have hhv:=Qdv (df:=df) hs hhi hh
     split at he
     ·rename_i hc
      obtain⟨rfl,rfl⟩:=hc
      simp only[Qb,Qe] at he
      obtain⟨rfl,rfl⟩:=he
      simp only[MR] at hv
      have:=Qcg (w:=w) ho hu hz hv hlv hhv (Int.le_refl _) (Int.le_refl _) (Int.le_refl _) (Qf _)
      refine Res.pure h Fr.sub this ?_
      simp only[MR]
      simp
     ·cases he
    ·cases he
   case lst sz' xs=>
    split at he
    ·rename_i u hh
     have hhv:=Qdv (df:=df) hs hhi hh
     split at he
     ·rename_i hc
      obtain⟨c1,c2,c3,rfl⟩:=hc
      simp only[Qb,Qe] at he
      obtain⟨rfl,rfl⟩:=he
      simp only[MR,DR] at hv
      obtain⟨_,hmax,hv⟩:=hv
      have hlen:((xs.take u.toNat).drop l.toNat).length=u.toNat-l.toNat:=by simp;omega
      rcases hv with⟨⟨p,hv⟩,rfl⟩|⟨b,off,cap,us,hv,hlc,hcl,hb,hM,hP⟩
      ·have:=Qcg (w:=w) ho hu hz hv hlv hhv c1 c2 c3 (Qf _)
       refine Res.pure h Fr.sub this ?_
       simp only[MR,DR]
       refine⟨trivial,by simp [QW],.inl ⟨⟨p,?_⟩,by simp⟩⟩
       have:l.toNat=0:=by simp at c3;omega
       have:u.toNat=0:=by simp at c3;omega
       simp [*]
      ·have:=Qcg (w:=w) ho hu hz hv hlv hhv c1 c2 c3 hlc
       refine Res.pure h Fr.sub this ?_
       simp only[MR,DR,hlen]
       refine⟨trivial,by omega,.inr ?_⟩
       obtain⟨u1,u2,rfl,p1,p2⟩:=hP.take u.toNat
       obtain⟨u3,u4,rfl,p3,p4⟩:=p1.take l.toNat
       have hm4:=(Mem.append.1 (Mem.append.1 hM).1).2
       have hl3:=p3.length
       by_cases hcl2:cap=l.toNat
       ·refine⟨b,off,cap-l.toNat,[],by simp [hcl2],by omega,by omega,hb,Mem.nil,?_⟩
        have:(xs.take u.toNat).drop l.toNat=[]:=List.eq_nil_of_length_eq_zero (by rw[hlen];omega)
        rw[this];simp [PE]
       ·refine⟨b,off+l.toNat*sz',cap-l.toNat,u4,by simp [hcl2,Z5],by omega,by omega,hb,?_,p4⟩
        have e0:u3.length=l.toNat*sz':=by rw[hl3];congr 1;simp;omega
        rw[e0] at hm4;exact hm4
     ·cases he
    ·cases he
   case sl id lo0 len=>
    split at he
    ·rename_i u hh
     have hhv:=Qdv (df:=df) hs hhi hh
     split at he
     ·rename_i hc
      obtain⟨c1,c2,c3,c4⟩:=hc
      simp only[Qb,Qe] at he
      obtain⟨rfl,rfl⟩:=he
      simp only[MR] at hv
      rcases hv with⟨sz0,hk,hv,rfl,rfl⟩|⟨b,sz',tot,off,cap,hk,hv,g1,g2,g3,g4⟩
      ·have:=Qcg (w:=w) ho hu hz hv hlv hhv c1 c2 c3 (Qf _)
       refine Res.pure h Fr.sub this ?_
       simp only[MR]
       have h1:l.toNat=0:=by omega
       have h2:u.toNat=0:=by omega
       exact .inl ⟨sz0,hk,by simp [h1,h2],by omega,by omega⟩
      ·have hsz:sz'=s:=h.entSz c4 hk
       subst hsz
       have:=Qcg (w:=w) ho hu hz hv hlv hhv c1 c2 c3 g1
       refine Res.pure h Fr.sub this ?_
       simp only[MR]
       right
       by_cases hcl2:cap=l.toNat
       ·refine⟨b,sz',tot,off,cap-l.toNat,hk,by simp [hcl2],by omega,by omega,?_,fun h0=>?_⟩
        ·have:cap-l.toNat=0:=by omega
         rw[this];simp
         have:=Nat.le_add_right off (cap*sz');omega
        ·rcases h0 with h0|h0
         ·omega
         ·have h1:l.toNat=0:=by omega
          have h2:lo0=0:=by omega
          rw[h1,h2];simp;exact (by have:=g4 (.inr h2);rw[h2] at this;simpa using this)
       ·refine⟨b,sz',tot,off+l.toNat*sz',cap-l.toNat,hk,by simp [hcl2,Z5],by omega,by omega,?_,fun h0=>?_⟩
        ·have e1:l.toNat*sz'+(cap-l.toNat)*sz'=cap*sz':=by rw[←Nat.add_mul];congr 1;omega
         omega
        ·have h0':0<len∨lo0=0:=by rcases h0 with h0|h0<;>omega
         rw[g4 h0',Nat.add_mul]
     ·cases he
    ·cases he
theorem Qbt(w:World)(b:Nat)(cs:Array Value){cur:Array Value}{ty:TypeId}(hg:w.heap[b]?=some (.cells cur ty (0,0)))(hs:cs.size=cur.size):Stp (·=b) w (w.setRow b cs):=
 ⟨rfl,rfl,rfl,by simp,fun k _ hk=>setRow_other w b k cs hk,fun k c e fr hk=>by
  by_cases h:k=b
  ·subst h
   rw[hg] at hk
   simp only[Qb,Obj.cells.injEq] at hk
   obtain⟨rfl,rfl,rfl⟩:=hk
   exact⟨cs,setRow_heap w k _ cs _ _ hg,hs⟩
  ·exact⟨c,by rw[setRow_other w b k cs h];exact hk,rfl⟩,by simp⟩
theorem QfV{t:TypeId}{m b off:Nat}(hz:XG P t=some m){v:Value}(hm:v.cells.size=m)(h1:∀u∈v.cells.toList,u.oneCell'=true){cur:Array Value}{ty:TypeId}(hg:w.heap[b]?=some (.cells cur ty (0,0)))(hle:off+m≤cur.size):
  (Go.storeVar t ⟨b,off,none⟩ v).run P w=.ok () (w.setRow b (cur.toList.take off++v.cells.toList++cur.toList.drop (off+m)).toArray):=by
 have:=run_storeCells_at P b off ty v.cells.toList 0 cur w hg (by simp;omega) h1
 simp only[Nat.add_zero,Array.length_toList,hm] at this
 simp [Go.storeVar,JS hz,hm,this]
theorem Mem.set{w':World}{b:Nat}{cur:Array Value}{e:TypeId}(hg:w'.heap[b]?=some (.cells cur e (0,0))){us:List Value}(h:∀(j:Nat)(u:Value),us[j]?=some u→cur[j]?=some u):Mem w' b 0 us:=
 Mem.of_cells hg (fun j u hj=>by simpa using h j u hj)
theorem QQc(h:RH B κ hp F w)(hs:RS B κ hp w sl tm){o:Oper}{t:TypeId}{ao xo:Operand}(ho:o.op=.store t ao xo){a x:X}(ha:cX ao=some a)(hx:cX xo=some x){m:Nat}(hz:XG P t=some m)(hm0:m≠0)
  (he:eff n sl hp (.store m a x)=some (d,hp')):Res P B κ hp hp' (Fr F n) w ((execOp (Act.eval ⟨tm,df⟩) o).run P w) d:=by
 simp only[eff] at he
 cases hda:ev sl a with
 |none=>simp [hda] at he
 |some da=>
  cases hdx:ev sl x with
  |none=>cases da<;>simp [hda,hdx] at he
  |some dx=>
   have hva:=XD (df:=df) hs ha hda
   have hvx:=XD (df:=df) hs hx hdx
   cases da<;>simp only[hda,hdx,reduceCtorEq] at he
   case pt id off=>
    split at he
    ·rename_i cs l hl hc
     split at he
     ·rename_i hcond
      simp only[Qb,Qe] at he
      obtain⟨rfl,rfl⟩:=he
      obtain⟨b,cur,ty,hk,hob,hg,h1,hms⟩:=h.box hl
      simp only[MR,hk,Qb,KI.box.injEq] at hva
      obtain⟨b',rfl,hva⟩:=hva
      obtain⟨g1,g2⟩:=QfQ hvx hc
      have hsz:(Act.eval ⟨tm,df⟩ xo).cells.size=m:=by have:=g1.length;simp at this;omega
      have hcl:=hms.length
      have hr:=QfV (P:=P) hz hsz g2 hg (off:=off) (by simp at hcl;omega)
      have hst:=Qbt w b (cur.toList.take off++(Act.eval ⟨tm,df⟩ xo).cells.toList++cur.toList.drop (off+m)).toArray hg (by simp only[List.size_toArray,Ql,Qj,List.length_drop,Array.length_toList,hsz];simp at hcl;omega)
      obtain⟨k1,k2⟩:=h.change (F':=Fr F n) hob hst Fr.sub (ent:=.box (XY cs off l)) (fun keep=>by
       simp only[ER]
       refine⟨b,_,ty,hk,setRow_heap w b cur _ ty _ hg,?_,?_⟩
       ·intro u hu
        simp only[Qg] at hu
        rcases hu with (hu|hu)|hu
        ·exact h1 u (QF hu)
        ·exact g2 u hu
        ·exact h1 u (QN hu)
       ·have hsp:XY cs off l=cs.take off++l++cs.drop (off+m):=by unfold XY;rw[hcond.1]
        have hh:=MRs.append.2 ⟨_,_,rfl,MRs.append.2 ⟨_,_,rfl,((hms.take off).1).mono keep (fun _ _ h=>h),g1.mono keep (fun _ _ h=>h)⟩,((hms.take (off+m)).2).mono keep (fun _ _ h=>h)⟩
        rw[←hsp] at hh
        exact hh)
      refine⟨κ,undef,_,.inr ⟨?_,rfl⟩,k1,k2,by simp only[MR];exact Qdo⟩
      simp [execOp,ho,Instr.storeAt,Instr.sureAddr,hva,hr]
     ·cases he
    ·cases he
   case pe id i off=>
    split at he
    ·rename_i sz xs hl
     split at he
     ·rename_i el d' hxe hpd
      split at he
      ·rename_i hcond
       --the new element
       have key:∀(el':D)(u':List Value)(hM:∀(I:Nat→Prop),Keep w w (Im B κ hp w) I→(∀id∈dx.ids,Rd w I κ hp id)→∀u,P1 w I el u→u.length=sz→P1 w I el' (u.take off++(Act.eval ⟨tm,df⟩ xo).cells.toList++u.drop (off+m))∧(u.take off++(Act.eval ⟨tm,df⟩ xo).cells.toList++u.drop (off+m)).length=sz),
         (Act.eval ⟨tm,df⟩ xo).cells.size=m→(∀u∈(Act.eval ⟨tm,df⟩ xo).cells.toList,u.oneCell'=true)→off+m≤sz→d=.undef→hp'=up (Xd dx.ids hp) id (.arr sz (xs.set i el'))→lk (Xd dx.ids hp) id=some (.arr sz xs)→
         Res P B κ hp hp' (Fr F n) w ((execOp (Act.eval ⟨tm,df⟩) o).run P w) d:=by
        intro el' u' hM hsz g2 hoff hd hhp hfz
        subst hd;subst hhp
        obtain⟨k1,k2⟩:=h.freezes dx.ids
        have hent:=k1.ent id _ hfz
        simp only[MR] at hva
        obtain⟨b,sz',tot,hk,hva⟩:=hva
        simp only[ER,hk,Qb,reduceCtorEq,false_and,false_or,KI.arr.injEq] at hent
        obtain⟨hmax,b',tot',cur,ty,us,⟨rfl,rfl,rfl⟩,hg,htot,hMem,hP⟩:=hent
        obtain⟨av,u,bv,rfl,la,lu,p1,pa,pb⟩:=hP.get hxe
        obtain⟨q1,q2⟩:=hM _ k2.keep (fun id hi=>QfT k1 hi) u p1 lu
        have hi:=(Qw.1 hxe).1
        have hMc:=Mem.cells hg hMem
        have hle:i*sz'+sz'≤cur.size:=by
         have:=Mem.le hg hMem (by simp [lu];omega)
         simp [la,lu] at this;omega
        have hr:=QfV (P:=P) hz hsz g2 hg (off:=i*sz'+off) (by omega)
        have hst:=Qbt w b (cur.toList.take (i*sz'+off)++(Act.eval ⟨tm,df⟩ xo).cells.toList++cur.toList.drop (i*sz'+off+m)).toArray hg (by simp only[List.size_toArray,Ql,Qj,List.length_drop,Array.length_toList,hsz];omega)
        have hob:OB κ (Xd dx.ids hp) w id b:=⟨_,_,hfz,rfl,hk,.inl rfl⟩
        obtain⟨j1,j2⟩:=k1.change (F':=Fr F n) hob hst Fr.sub (ent:=.arr sz' (xs.set i el')) (fun keep=>by
         simp only[ER]
         refine⟨by simpa using hmax,.inr ⟨b,tot,_,ty,av++((u.take off++(Act.eval ⟨tm,df⟩ xo).cells.toList++u.drop (off+m))++bv),hk,setRow_heap w b cur _ ty _ hg,?_,?_,?_⟩⟩
         ·simp only[List.size_toArray,Ql,Qj,List.length_drop,Array.length_toList,hsz];omega
         ·refine Mem.set (setRow_heap w b cur _ ty _ hg) (fun j uu hj=>?_)
          have e1:av++((u.take off++(Act.eval ⟨tm,df⟩ xo).cells.toList++u.drop (off+m))++bv)=(av++(u++bv)).take (i*sz'+off)++(Act.eval ⟨tm,df⟩ xo).cells.toList++(av++(u++bv)).drop (i*sz'+off+m):=by
           rw[←la]
           rw[List.take_append,List.drop_append]
           simp only[Nat.add_sub_cancel_left,List.take_append,List.drop_append]
           have e2:av.take (av.length+off)=av:=QA (by omega)
           have e3:av.drop (av.length+off+m)=[]:=List.drop_eq_nil_of_le (by omega)
           have e4:bv.take (off-u.length)=[]:=by rw[show off-u.length=0 from by omega];rfl
           have e5:bv.drop (av.length+off+m-av.length-u.length)=bv:=by rw[show av.length+off+m-av.length-u.length=0 from by omega];rfl
           rw[e2,e3,e4,e5,show av.length+off+m-av.length=off+m from by omega]
           simp
          rw[e1] at hj
          have hlt:(av++(u++bv)).length≤cur.size:=by
           have:=Mem.le hg hMem (by simp [lu];omega);simpa using this
          have hpre:∀j,j<(av++(u++bv)).length→(av++(u++bv))[j]?=cur.toList[j]?:=fun j hj=>by
           have:=hMc j _ (Qq hj)
           rw[Qq hj]
           simpa using this.symm
          rw[show (cur.toList.take (i*sz'+off)++(Act.eval ⟨tm,df⟩ xo).cells.toList++cur.toList.drop (i*sz'+off+m)).toArray[j]?=(cur.toList.take (i*sz'+off)++(Act.eval ⟨tm,df⟩ xo).cells.toList++cur.toList.drop (i*sz'+off+m))[j]? from by simp]
          have ltot:(av++(u++bv)).length=i*sz'+(sz'+bv.length):=by simp [la,lu]
          by_cases c1:j<i*sz'+off
          ·have l1:j<((av++(u++bv)).take (i*sz'+off)).length:=by rw[Qj];omega
           have l2:j<(cur.toList.take (i*sz'+off)).length:=by rw[Qj,Array.length_toList];omega
           rw[QC,Qy l1] at hj
           rw[QC,Qy l2]
           rw[List.getElem?_take,if_pos c1] at hj ⊢
           rw[←hpre j (by omega)];exact hj
          ·have l1:((av++(u++bv)).take (i*sz'+off)).length=i*sz'+off:=by rw[Qj];omega
           have l2:(cur.toList.take (i*sz'+off)).length=i*sz'+off:=by rw[Qj,Array.length_toList];omega
           rw[QC,QH (by omega),l1] at hj
           rw[QC,QH (by omega),l2]
           by_cases c2:j-(i*sz'+off)<m
           ·rw[Qy (by simpa [hsz] using c2)] at hj ⊢
            exact hj
           ·rw[QH (by simp [hsz];omega)] at hj ⊢
            rw[List.getElem?_drop] at hj ⊢
            simp only[Array.length_toList,hsz] at hj ⊢
            rw[←hpre _ (by have:=(Qw.1 hj).1;omega)];exact hj
         ·have hP2:=PE.set (i:=i) hP hxe q1 q2
          have e1:(av++(u++bv)).take (i*sz')++((u.take off++(Act.eval ⟨tm,df⟩ xo).cells.toList++u.drop (off+m))++(av++(u++bv)).drop (i*sz'+sz'))=av++((u.take off++(Act.eval ⟨tm,df⟩ xo).cells.toList++u.drop (off+m))++bv):=by
           rw[←la,List.take_left,show av.length+sz'=(av++u).length from by simp [lu],←QC av u bv,List.drop_left]
          rw[e1] at hP2
          exact PE.mono keep _ _ _ hP2)
        refine⟨κ,undef,_,.inr ⟨?_,rfl⟩,j1,k2.trans j2,by simp only[MR];exact Qdo⟩
        simp [execOp,ho,Instr.storeAt,Instr.sureAddr,hva,hr]
       have hsz:(Act.eval ⟨tm,df⟩ xo).cells.size=m∧∀u∈(Act.eval ⟨tm,df⟩ xo).cells.toList,u.oneCell'=true:=by
        obtain⟨k1,k2⟩:=h.freezes dx.ids
        have hpc:=Qdr k2.keep (fun id hi=>QfT k1 hi) hvx hpd
        have:=hpc.length
        exact⟨by simp at this;omega,hpc.one⟩
       have hnid:id∉dx.ids:=by
        have:=hcond.2.2
        simpa using this
       have hfz:lk (Xd dx.ids hp) id=some (.arr sz xs):=by
        rw[Qbs _ _ _ _ hl,if_neg hnid]
       have hels:el.cells.length=sz:=by
        have hent:=h.ent id _ hl
        simp only[MR] at hva
        obtain⟨b,sz',tot,hk,hva⟩:=hva
        simp only[ER,hk,Qb,reduceCtorEq,false_and,false_or,KI.arr.injEq] at hent
        obtain⟨hmax,b',tot',cur,ty,us,⟨rfl,rfl,rfl⟩,hg,htot,hMem,hP⟩:=hent
        obtain⟨av,u,bv,_,_,lu,p1,_,_⟩:=hP.get hxe
        rw[←p1.cells.length,lu]
       split at he
       ·rename_i hms
        split at he
        ·rename_i hok
         simp only[Qb,Qe] at he
         refine key d' [] (fun I hk hr u p1 lu=>?_) hsz.1 hsz.2 (by omega) he.1.symm he.2.symm hfz
         have hoff:off=0:=by omega
         subst hoff
         have e1:u.take 0++(Act.eval ⟨tm,df⟩ xo).cells.toList++u.drop (0+m)=(Act.eval ⟨tm,df⟩ xo).cells.toList:=by
          rw[List.drop_eq_nil_of_le (by omega)];simp
         rw[e1]
         exact P1.of_cells hok (Qdr hk hr hvx hpd)
        ·cases he
       ·split at he
        ·rename_i hok
         simp only[Qb,Qe] at he
         refine key _ [] (fun I hk hr u p1 lu=>?_) hsz.1 hsz.2 (by omega) he.1.symm he.2.symm hfz
         have hpc:=Qdr hk hr hvx hpd
         have hu:=p1.cells
         have hh:PC w I (XY el.cells off d'.cells) (u.take off++(Act.eval ⟨tm,df⟩ xo).cells.toList++u.drop (off+m)):=by
          unfold XY
          rw[hcond.1]
          exact PC.append.2 ⟨_,_,rfl,PC.append.2 ⟨_,_,rfl,hu.take off,hpc⟩,hu.drop (off+m)⟩
         refine⟨by simp only[P1];exact hh,?_⟩
         rw[hh.length]
         simp only[XT,Qi,Qk] at hok
         exact hok.1
        ·cases he
      ·cases he
     ·cases he
    ·cases he
def Src(P:Program)(w:World)(size m:Nat)(vy:Value)(news:List Value):Prop:=
 (Builtin.lenOf vy).run P w=.ok m w∧news.length=m*size∧(∀u∈news,u.oneCell'=true)∧(Builtin.firstCells size m vy).run P w=.ok news.toArray w∧(Builtin.firstCells size m vy).run P w.drew=.ok news.toArray w.drew∧∀k,k≤m→(Builtin.firstCells size k vy).run P w=.ok (news.take (k*size)).toArray w
section
variable {t u ty e e':TypeId} {i:TypeInfo} {z:Value} (ht:P.underlying t=some (.slice e)) (hu:P.underlying u=some (.slice e')) (hi:P.info? e=some i) (hz:i.zero=some z)
include ht hu hi
theorem QQd{g sLen sCap m:Nat}{cur:Array Value}{t0:TypeId}(hg:w.heap[g]?=some (.cells cur t0 (0,0))){vy:Value}{news:List Value}(hs:Src P w i.size m vy news)(hroom:sLen+m≤sCap)(hfit:sLen*i.size+news.length≤cur.size):
  (Builtin.append_ #[t,u] ty #[.slice (some ⟨g,0,none⟩) sLen sCap,vy]).run P w=
   .ok (.slice (some ⟨g,0,none⟩) (sLen+m) sCap) (w.setRow g (cur.toList.take (sLen*i.size)++news++cur.toList.drop (sLen*i.size+news.length)).toArray):=by
 obtain⟨h1,h2,h3,h4,_⟩:=hs
 have hst:=run_storeCells_at P g (sLen*i.size) t0 news 0 cur w hg (by simpa using hfit) h3
 simp only[Nat.add_zero] at hst
 simp [Builtin.append_,run_underlying ht,run_underlying hu,sizeOf,typeInfo,hi,h1,hroom,h4,Z5,hst]
theorem Qnw{vy:Value}{news:List Value}(hs:Src P w i.size 0 vy news):(Builtin.append_ #[t,u] ty #[.slice none 0 0,vy]).run P w=.ok (.slice none 0 0) w:=by
 obtain⟨h1,h2,h3,h4,_⟩:=hs
 simp [Builtin.append_,run_underlying ht,run_underlying hu,sizeOf,typeInfo,hi,h1,h4]
include hz in
theorem QQe{base:Option Addr}{sLen sCap m:Nat}{olds:List Value}(ho:(Builtin.firstCells i.size sLen (.slice base sLen sCap)).run P w.drew=.ok olds.toArray w.drew){vy:Value}{news:List Value}(hs:Src P w i.size m vy news)
  (hg:sCap<sLen+m) (h63:((sLen+m:Nat):Int)≤9223372036854775807) (hfit:Builtin.nextslicecap (sLen+m) sCap*i.bytes≤281474976710656):
  (Builtin.append_ #[t,u] ty #[.slice base sLen sCap,vy]).run P w=
   .ok (.slice (some ⟨w.heap.size,0,none⟩) (sLen+m) (grownCap w (sLen+m) sCap e))
    (w.drew.alloc (.cells (olds.toArray++news.toArray++Builtin.zeroCells z.cells (grownCap w (sLen+m) sCap e-(sLen+m))) e)):=by
 obtain⟨h1,h2,h3,_,h4,_⟩:=hs
 have hn:¬(sLen+m≤sCap):=by omega
 have h63':¬(9223372036854775807<((sLen:Int)+(m:Int))):=by omega
 have h48':¬(281474976710656<Builtin.nextslicecap (sLen+m) sCap*i.bytes):=by omega
 simp [Builtin.append_,run_underlying ht,run_underlying hu,sizeOf,typeInfo,zeroValue,hi,hz,h1,hn,h63',h48',Question.forced,h4,ho,newRow,grownCap]
 congr 2
 apply Array.ext'
 simp [QC]
end
theorem Src.of_nil{size:Nat}{p:Option Addr}:Src P w size 0 (.slice p 0 0) []:=by
 cases p with
 |none=>exact⟨by simp [Builtin.lenOf],by simp,by simp,by simp [Builtin.firstCells],by simp [Builtin.firstCells],fun k _=>by simp [Builtin.firstCells]⟩
 |some a=>
  refine⟨by simp [Builtin.lenOf],by simp,by simp,by simp [Builtin.firstCells,loadCells,loadCellsFrom],by simp [Builtin.firstCells,loadCells,loadCellsFrom],fun k hk=>?_⟩
  obtain rfl:k=0:=by omega
  simp [Builtin.firstCells,loadCells,loadCellsFrom]
theorem Src.of_mem{size m b off cap:Nat}{us:List Value}(hM:Mem w b off us)(hl:us.length=m*size)(h1:∀u∈us,u.oneCell'=true):Src P w size m (.slice (some ⟨b,off,none⟩) m cap) us:=by
 refine⟨by simp [Builtin.lenOf],hl,h1,?_,?_,fun k hk=>?_⟩
 ·have:=run_loadCells_list (P:=P) w ⟨b,off,none⟩ us (fun j v hj=>by rw[Z5];exact hM j v hj)
  rw[hl] at this
  simp [Builtin.firstCells,this]
 ·have:=run_loadCells_list (P:=P) w.drew ⟨b,off,none⟩ us (fun j v hj=>by rw[Z5];exact hM j v hj)
  rw[hl] at this
  simp [Builtin.firstCells,this]
 ·have hkl:(us.take (k*size)).length=k*size:=by
   rw[Qj,hl]
   exact Nat.min_eq_left (Nat.mul_le_mul_right _ hk)
  have:=run_loadCells_list (P:=P) w ⟨b,off,none⟩ (us.take (k*size)) (fun j v hj=>by
   rw[Z5]
   rw[List.getElem?_take] at hj
   split at hj
   ·exact hM j v hj
   ·cases hj)
  rw[hkl] at this
  simp [Builtin.firstCells,this]
theorem Qnx(h:RH B κ hp F w){sz:Nat}{dy:D}{vy:Value}{ys:List D}(hv:MR w (Im B κ hp w) κ dy vy)(hr:rdS hp sz dy=some ys):
  ys.length≤QW∧∃us,PE w (Im B κ hp w) sz ys us∧Src P w sz ys.length vy us:=by
 have nilc:∀{vy:Value}{p:Option Addr},vy=.slice p 0 0→([]:List D).length≤QW∧∃us,PE w (Im B κ hp w) sz [] us∧Src P w sz ([]:List D).length vy us:=fun hv=>by
  subst hv;exact⟨Nat.zero_le _,[],by simp [PE],Src.of_nil⟩
 cases dy<;>simp only[rdS,reduceCtorEq] at hr
 case nl=>
  simp only[Qb] at hr;subst hr
  simp only[MR] at hv
  exact nilc hv
 case lst sz' xs=>
  split at hr
  ·rename_i hs
   subst hs
   simp only[Qb] at hr;subst hr
   simp only[MR,DR] at hv
   obtain⟨_,h1,hv⟩:=hv
   rcases hv with⟨⟨p,hv⟩,rfl⟩|⟨b,off,cap,us,rfl,_,_,_,hM,hP⟩
   ·exact nilc hv
   ·exact⟨h1,us,hP,Src.of_mem hM hP.length hP.one⟩
  ·cases hr
 case sl id lo len=>
  have key:∀(sz':Nat)(xs:List D),sz'=sz→lo+len≤xs.length→xs.length≤QW→((κ id=some (.nil sz')∧xs=[])∨∃b tot us,κ id=some (.arr b sz' tot)∧Mem w b 0 us∧PE w (Im B κ hp w) sz' xs us)→ys=(xs.drop lo).take len→
    ys.length≤QW∧∃us,PE w (Im B κ hp w) sz ys us∧Src P w sz ys.length vy us:=by
   intro sz' xs hs hl hmax hent hys
   subst hs;subst hys
   have hlen:((xs.drop lo).take len).length=len:=by simp;omega
   simp only[MR] at hv
   rcases hent with⟨hk,rfl⟩|⟨b,tot,us,hk,hM,hP⟩
   ·rw[hk] at hv
    rcases hv with⟨_,_,hv,rfl,rfl⟩|⟨_,_,_,_,_,hv,_⟩
    ·simpa using nilc hv
    ·cases hv
   ·rw[hk] at hv
    rcases hv with⟨_,hv,_⟩|⟨b',sz'',tot',off,cap,hv,rfl,h2,h3,h4,h5⟩
    ·cases hv
    ·simp only[Qb,KI.arr.injEq] at hv
     obtain⟨rfl,rfl,rfl⟩:=hv
     rw[hlen]
     refine⟨by omega,?_⟩
     by_cases h0:0<len∨lo=0
     ·have hoff:=h5 h0
      obtain⟨u1,u2,rfl,p1,p2⟩:=hP.take lo
      obtain⟨u3,u4,rfl,p3,p4⟩:=p2.take len
      have hm3:=(Mem.append.1 (Mem.append.1 hM).2).1
      have hl1:=p1.length
      rw[Qj,Nat.min_eq_left (by omega)] at hl1
      rw[hl1,Nat.zero_add,←hoff] at hm3
      have hl3:=p3.length
      rw[hlen] at hl3
      exact⟨u3,p3,Src.of_mem hm3 hl3 p3.one⟩
     ·have:len=0:=by omega
      subst this
      exact⟨[],by simp [PE],Src.of_mem Mem.nil (by simp) (by simp)⟩
  have key2:∀(sz':Nat)(xs:List D),xs.length≤QW→((κ id=some (.nil sz')∧xs=[])∨∃b tot us,κ id=some (.arr b sz' tot)∧Mem w b 0 us∧PE w (Im B κ hp w) sz' xs us)→
    (if sz'=sz then (if lo=0∧len=xs.length then some xs else if lo+len≤xs.length then some ((xs.drop lo).take len) else none) else none)=some ys→
    ys.length≤QW∧∃us,PE w (Im B κ hp w) sz ys us∧Src P w sz ys.length vy us:=by
   intro sz' xs hmax hent hr
   split at hr
   ·rename_i hs
    split at hr
    ·rename_i hc
     simp only[Qb] at hr
     exact key sz' xs hs (by omega) hmax hent (by rw[←hr,hc.1,hc.2];simp)
    ·split at hr
     ·simp only[Qb] at hr
      exact key sz' xs hs (by assumption) hmax hent hr.symm
     ·cases hr
   ·cases hr
  split at hr
  ·rename_i hl
   have hent:=h.ent id _ hl
   simp only[ER] at hent
   exact key2 _ _ hent.1 (hent.2.imp (fun h=>h) fun⟨b,tot,cur,ty,us,k1,_,_,k4,k5⟩=>⟨b,tot,us,k1,k4,k5⟩) hr
  ·rename_i hl
   have hent:=h.ent id _ hl
   simp only[ER] at hent
   exact key2 _ _ hent.1 (hent.2.imp (fun h=>h) fun⟨b,tot,us,k1,_,k4,k5⟩=>⟨b,tot,us,k1,k4,k5⟩) hr
  ·cases hr
theorem Qny{need old:Nat}{e:TypeId}(h:need≤QW):grownCap w need old e≤maxLen:=grownCap_le_maxLen w need old e (by simp only[QW] at h;simp only[maxLen];omega)
theorem QQf(h:RH B κ hp F w)(hs:RS B κ hp w sl tm)(hF:∀k,k<64→F (n+k)){o:Oper}{c:Call}(ho:o.op=.call c)(hc:c.callee=.builtin .append){t u:TypeId}(hat:c.argTypes.toList=[t,u]){xo yo:Operand}(ha:c.args.toList=[xo,yo])
  {e e':TypeId} (ht:P.underlying t=some (.slice e)) (hu:P.underlying u=some (.slice e')) {s:Nat} (hz:XG P e=some s) {i:TypeInfo} (hi:P.info? e=some i) {z:Value} (hzz:i.zero=some z) (hzc:z.cells.size=s)
  {x y:X} (hx:cX xo=some x) (hy:cX yo=some y) (he:eff n sl hp (.app s i.bytes x y)=some (d,hp')):
  Res P B κ hp hp' (Fr F n) w ((execOp (Act.eval ⟨tm,df⟩) o).run P w) d:=by
 have hsz:i.size=s:=by simpa [XG,hi] using hz
 have hat':c.argTypes=#[t,u]:=by apply Array.ext';simpa using hat
 have ha':c.args=#[xo,yo]:=by apply Array.ext';simpa using ha
 have hrun:(execOp (Act.eval ⟨tm,df⟩) o).run P w=((Builtin.append_ #[t,u] o.type #[Act.eval ⟨tm,df⟩ xo,Act.eval ⟨tm,df⟩ yo]).run P w).andThen fun v w'=>.ok (.value v) w':=by
  simp [execOp,ho,resolve,hc,ha',hat',invoke,builtin]
 rw[hrun]
 simp only[eff] at he
 cases hdx:ev sl x with
 |none=>simp [hdx] at he
 |some dx=>
  cases hyy:(ev sl y).bind (rdS hp s) with
  |none=>cases dx<;>simp [hdx,hyy] at he
  |some ys=>
   cases hdy:ev sl y with
   |none=>simp [hdy] at hyy
   |some dy=>
    simp only[hdy,Option.bind_some] at hyy
    have hvx:=XD (df:=df) hs hx hdx
    have hvy:=XD (df:=df) hs hy hdy
    obtain⟨hymax,us,hP,hsrc⟩:=Qnx (P:=P) h hvy hyy
    rw[←hsz] at hsrc
    --a new row
    have grow:∀(hp1:qHp)(base:Option Addr)(sLen sCap:Nat)(olds:List Value)(xs:List D),RH B κ hp1 F w→Nxt B κ κ hp hp1 w w→Act.eval ⟨tm,df⟩ xo=.slice base sLen sCap→PE w (Im B κ hp w) s xs olds→xs.length=sLen→
      (Builtin.firstCells i.size sLen (.slice base sLen sCap)).run P w.drew=.ok olds.toArray w.drew→sCap<sLen+ys.length→YY (sLen+ys.length) i.bytes=true→d=.sl n 0 (sLen+ys.length)→hp'=up hp1 n (.arr s (xs++ys))→
      Res P B κ hp hp' (Fr F n) w (((Builtin.append_ #[t,u] o.type #[Act.eval ⟨tm,df⟩ xo,Act.eval ⟨tm,df⟩ yo]).run P w).andThen fun v w'=>.ok (.value v) w') d:=by
     intro hp1 base sLen sCap olds xs k1 k2 hvx hPx hxl hf hlt hfit hd hh
     subst hd;subst hh
     obtain⟨f1,f2⟩:=Qcf hfit
     have hnx:Builtin.nextslicecap (sLen+ys.length) sCap*i.bytes≤281474976710656:=growslice_fits hlt f1
     rw[hvx,QQe (ty:=o.type) ht hu hi hzz hf hsrc hlt (by simp only[QW] at f2;omega) hnx]
     simp only[Result.andThen_ok]
     have hge:=grownCap_ge w (sLen+ys.length) sCap e
     have hle:=Qny (w:=w) (old:=sCap) (e:=e) f2
     have hPxy:PE w (Im B κ hp1 w) s (xs++ys) (olds++us):=PE.append.2 ⟨_,_,rfl,PE.mono k2.keep _ _ _ hPx,PE.mono k2.keep _ _ _ hP⟩
     have hlo:=hPx.length
     have hlu:=hP.length
     refine Qdu k1 hF (cur:=olds.toArray++us.toArray++Builtin.zeroCells z.cells (grownCap w (sLen+ys.length) sCap e-(sLen+ys.length))) (ty:=e) (w':=w.drew.alloc (.cells (olds.toArray++us.toArray++Builtin.zeroCells z.cells (grownCap w (sLen+ys.length) sCap e-(sLen+ys.length))) e)) rfl rfl rfl ⟨rfl,Nat.le_succ _⟩ (us:=olds++us) (fun j u hj=>?_) hPxy (by simp [hxl]) f2 hge hle ?_ rfl k2
     ·have hlt:=(Qw.1 hj).1
      rw[←Array.getElem?_toList]
      simp only[Array.toList_append]
      rw[Qy (by simpa using hlt)]
      exact hj
     ·simp only[Array.size_append,List.size_toArray,size_zeroCells,hzc,hlo,hlu,hxl,←Nat.add_mul]
      apply Nat.le_of_eq
      congr 1
      omega
    cases dx<;>simp only[hdx,hdy,Option.bind_some,hyy,reduceCtorEq] at he
    case nl=>
     split at he
     ·rename_i hfit
      simp only[Qb,Qe] at he
      obtain⟨rfl,rfl⟩:=he
      simp only[MR] at hvx
      by_cases hy0:ys=[]
      ·subst hy0
       have hh:=h.newNil (m:=n) (F':=Fr F n) (hF 0 (by omega)) (Fr.ne (k:=0) (by omega)) s
       rw[hvx,Qnw (ty:=o.type) ht hu hi hsrc]
       exact⟨_,_,_,.inl rfl,hh.1,hh.2,by simp only[MR];exact .inl ⟨s,XZ,by simp⟩⟩
      ·have hpos:0<ys.length:=by cases ys<;>simp at hy0 ⊢
       exact grow hp none 0 0 [] [] h (Nxt.refl _ _ _ _) hvx (by simp [PE]) rfl (by simp [Builtin.firstCells]) (by omega) (by simpa using hfit) (by simp) (by simp)
     ·cases he
    case sl id lo len=>
     split at he
     ·rename_i sz' xs hl
      split at he
      ·rename_i hcond
       obtain⟨rfl,rfl,hfit⟩:=hcond
       --the elements that stay
       obtain⟨xs',hxs',hlen,hd,hh⟩:∃xs',xs'=xs.take len∧xs'.length=len∧d=.sl n 0 (len+ys.length)∧hp'=up (rm hp id) n (.arr sz' (xs'++ys)):=by
        split at he
        ·rename_i hl
         simp only[Qb,Qe] at he
         exact⟨xs,by rw[hl];simp,hl.symm,he.1.symm,he.2.symm⟩
        ·split at he
         ·rename_i hl
          simp only[Qb,Qe] at he
          exact⟨xs.take len,rfl,by simp;omega,he.1.symm,he.2.symm⟩
         ·cases he
       have hlx:len≤xs.length:=by rw[hxs'] at hlen;simp at hlen;omega
       have hent:=h.ent id _ hl
       simp only[ER] at hent
       obtain⟨k1,k2⟩:=h.forget id
       simp only[MR] at hvx
       rcases hent with⟨hmax,⟨hk,rfl⟩|⟨b,tot,cur,ty0,vs,hk,hg,htot,hM,hPx⟩⟩
       ·rw[hk] at hvx
        rcases hvx with⟨_,_,hvx,_,rfl⟩|⟨_,_,_,_,_,hvx,_⟩
        ·simp at hxs'
         subst hxs'
         by_cases hy0:ys=[]
         ·subst hy0
          have hh2:=k1.newNil (m:=n) (F':=Fr F n) (hF 0 (by omega)) (Fr.ne (k:=0) (by omega)) sz'
          rw[hvx,Qnw (ty:=o.type) ht hu hi hsrc]
          subst hd;subst hh
          exact⟨_,_,_,.inl rfl,hh2.1,k2.trans hh2.2,by simp only[MR];exact .inl ⟨sz',XZ,by simp⟩⟩
         ·have hpos:0<ys.length:=by cases ys<;>simp at hy0 ⊢
          exact grow (rm hp id) none 0 0 [] [] k1 k2 hvx (by simp [PE]) rfl (by simp [Builtin.firstCells]) (by omega) hfit hd hh
        ·cases hvx
       ·rw[hk] at hvx
        rcases hvx with⟨_,hvx,_⟩|⟨b',sz'',tot',off,cap,hvx,hv,g1,g2,g3,g4⟩
        ·cases hvx
        ·simp only[Qb,KI.arr.injEq] at hvx
         obtain⟨rfl,rfl,rfl⟩:=hvx
         have hoff:off=0:=by simpa using g4
         subst hoff
         obtain⟨u1,u2,rfl,p1,p2⟩:=hPx.take len
         rw[←hxs'] at p1
         have hM1:=(Mem.append.1 hM).1
         have hl1:=p1.length
         rw[hlen] at hl1
         by_cases hroom:len+ys.length≤cap
         ·have hle:(len+ys.length)*sz'≤cur.size:=by
           have:=Nat.mul_le_mul_right sz' hroom;omega
          have hlu:=hP.length
          rw[Nat.add_mul] at hle
          rw[hv,QQd (ty:=o.type) ht hu hi hg hsrc hroom (by rw[hsz,hlu];exact hle)]
          simp only[Result.andThen_ok]
          subst hd;subst hh
          rw[hsz]
          have hob:OB κ hp w id b:=⟨_,_,hl,rfl,hk,.inl rfl⟩
          have hst:=Qbt w b (cur.toList.take (len*sz')++us++cur.toList.drop (len*sz'+us.length)).toArray hg (by simp only[List.size_toArray,Ql,Qj,List.length_drop,Array.length_toList];omega)
          obtain⟨j1,j2⟩:=h.move (F':=Fr F n) hob hst (ki:=.arr b sz' tot) rfl (m:=n) (hF 0 (by omega)) (Fr.ne (k:=0) (by omega)) (ent:=.arr sz' (xs'++ys)) (fun keep=>by
           simp only[ER]
           refine⟨by have:=(Qcf hfit).2;simp [hlen];omega,.inr ⟨b,tot,_,ty0,u1++us,XZ,setRow_heap w b cur _ ty0 _ hg,?_,?_,?_⟩⟩
           ·simp only[List.size_toArray,Ql,Qj,List.length_drop,Array.length_toList,hlu];omega
           ·refine Mem.set (setRow_heap w b cur _ ty0 _ hg) (fun j uu hj=>?_)
            have e0:cur.toList.take (len*sz')=u1:=by
             apply List.ext_getElem?
             intro k
             rw[List.getElem?_take]
             by_cases hk:k<len*sz'
             ·rw[if_pos hk]
              have:=Mem.cells hg hM1 k _ (Qq (by omega))
              rw[Qq (by omega:k<u1.length)]
              simpa using this
             ·rw[if_neg hk,List.getElem?_eq_none (by omega)]
            rw[e0]
            have hlt:=(Qw.1 hj).1
            simp only[List.getElem?_toArray]
            rw[Qy hlt]
            exact hj
           ·exact PE.append.2 ⟨_,_,rfl,PE.mono keep _ _ _ p1,PE.mono keep _ _ _ hP⟩)
          exact⟨_,_,_,.inl rfl,j1,j2,by simp only[MR];exact .inr ⟨b,sz',tot,0,cap,XZ,by simp;exact⟨hroom,g2,by omega⟩⟩⟩
         ·have hf:(Builtin.firstCells i.size len (.slice (some ⟨b,0,none⟩) len cap)).run P w.drew=.ok u1.toArray w.drew:=by
           have:=run_loadCells_list (P:=P) w.drew ⟨b,0,none⟩ u1 (fun j v hj=>by rw[Z5];exact hM1 j v hj)
           rw[hl1] at this
           simp [Builtin.firstCells,hsz,this]
          exact grow (rm hp id) _ len cap u1 xs' k1 k2 hv p1 hlen hf (by omega) hfit hd hh
      ·cases he
     ·cases he
theorem QQg{A B N:List Value}{o k j:Nat}(hAB:∀i,i<B.length→A[i]?=B[i]?)(hk:N.length=k)(hB:o+k≤B.length)(hA:B.length≤A.length)(hj:j<B.length):(A.take o++N++A.drop (o+k))[j]?=(B.take o++N++B.drop (o+k))[j]?:=by
 simp only[QC]
 have la:(A.take o).length=o:=by rw[Qj];omega
 have lb:(B.take o).length=o:=by rw[Qj];omega
 rcases Nat.lt_or_ge j o with c1|c1
 ·rw[Qy (by omega),Qy (by omega),List.getElem?_take,List.getElem?_take,if_pos c1,if_pos c1,hAB j hj]
 ·rw[QH (l₁:=A.take o) (by omega),QH (l₁:=B.take o) (by omega),la,lb]
  rcases Nat.lt_or_ge (j-o) k with c2|c2
  ·rw[Qy (by omega),Qy (by omega)]
  ·rw[QH (l₁:=N) (by omega),QH (l₁:=N) (by omega),hk,List.getElem?_drop,List.getElem?_drop]
   exact hAB _ (by omega)
theorem QQh(h:RH B κ hp F w)(hs:RS B κ hp w sl tm){o:Oper}{c:Call}(ho:o.op=.call c)(hc:c.callee=.builtin .copy){t u:TypeId}(hat:c.argTypes.toList=[t,u]){xo yo:Operand}(ha:c.args.toList=[xo,yo])
  {e:TypeId} (ht:P.underlying t=some (.slice e)) {s:Nat} (hz:XG P e=some s)
  {x y:X} (hx:cX xo=some x) (hy:cX yo=some y) (he:eff n sl hp (.cpy s x y)=some (d,hp')):
  Res P B κ hp hp' (Fr F n) w ((execOp (Act.eval ⟨tm,df⟩) o).run P w) d:=by
 have hsz:(sizeOf e).run P w=.ok s w:=by
  simp only[XG,Qm] at hz
  obtain⟨i,hi,rfl⟩:=hz
  simp [sizeOf,typeInfo,hi]
 have hat':c.argTypes=#[t,u]:=by apply Array.ext';simpa using hat
 have ha':c.args=#[xo,yo]:=by apply Array.ext';simpa using ha
 have hrun:(execOp (Act.eval ⟨tm,df⟩) o).run P w=((Builtin.copy_ #[t,u] o.type #[Act.eval ⟨tm,df⟩ xo,Act.eval ⟨tm,df⟩ yo]).run P w).andThen fun v w'=>.ok (.value v) w':=by
  simp [execOp,ho,resolve,hc,ha',hat',invoke,builtin]
 rw[hrun]
 simp only[eff] at he
 split at he
 case h_2=>cases he
 rename_i id lo len ys hdx hyy
 split at he
 case h_2=>cases he
 rename_i sz' xs hl
 split at he
 case isFalse=>cases he
 rename_i hcond
 obtain⟨rfl,hlen⟩:=hcond
 simp only[Qb,Qe] at he
 obtain⟨rfl,rfl⟩:=he
 cases hdy:ev sl y with
 |none=>simp [hdy] at hyy
 |some dy=>
  simp only[hdy,Option.bind_some] at hyy
  have hvx:=XD (df:=df) hs hx hdx
  have hvy:=XD (df:=df) hs hy hdy
  obtain⟨hymax,us,hP,q1,q2,q3,_,_,q4⟩:=Qnx (P:=P) h hvy hyy
  have hfc:=q4 (min ys.length len) (Nat.min_le_left _ _)
  have hent:=h.ent id _ hl
  simp only[ER] at hent
  have hnl:(us.take (min ys.length len*sz')).length=min ys.length len*sz':=by
   rw[Qj,q2]
   exact Nat.min_eq_left (Nat.mul_le_mul_right _ (Nat.min_le_left _ _))
  have htk:(ys.take (min ys.length len)).length=min ys.length len:=by rw[Qj];omega
  obtain⟨n1,n2,hn12,hPn,_⟩:=hP.take (min ys.length len)
  have hn1:n1=us.take (min ys.length len*sz'):=by
   rw[hn12,List.take_left']
   rw[hPn.length,htk]
  rw[hn1] at hPn
  simp only[MR] at hvx
  generalize hN:min ys.length len=N at*
  have hNl:N≤len:=by omega
  rcases hent with⟨hmax,⟨hk,rfl⟩|⟨b,tot,cur,ty0,vs,hk,hg,htot,hM,hPx⟩⟩
  ·rw[hk] at hvx
   rcases hvx with⟨_,_,hvx,rfl,rfl⟩|⟨_,_,_,_,_,hvx,_⟩
   ·obtain rfl:N=0:=by omega
    have hr:(Builtin.copy_ #[t,u] o.type #[Act.eval ⟨tm,df⟩ xo,Act.eval ⟨tm,df⟩ yo]).run P w=.ok (.int .i64 0) w:=by
     have hm:Nat.min ys.length 0=0:=by simp
     rw[hvx]
     simp [Builtin.copy_,run_underlying ht,q1,hsz,hm,hfc,goInt]
    rw[hr]
    simp only[Result.andThen_ok]
    have he0:up hp id (.arr sz' (XY [] 0 (ys.take 0)))=up hp id (.arr sz' ([]:List D)):=by simp [XY]
    rw[he0]
    have hid:∀i,lk (up hp id (.arr sz' ([]:List D))) i=lk hp i:=fun i=>by
     rw[Yw];split
     ·rename_i hi;subst hi;exact hl.symm
     ·rfl
    have hob:∀i b,OB κ (up hp id (.arr sz' ([]:List D))) w i b↔OB κ hp w i b:=fun i b=>by simp only[OB,hid]
    obtain⟨k1,k2⟩:=h.next (F':=F) (hp':=up hp id (.arr sz' ([]:List D))) (w':=w) (κ':=κ) (fun _ _ h=>h) (Stp.refl _ _) (fun b ⟨i,ho⟩=>.inl ⟨i,(hob _ _).1 ho⟩) h.fr (fun b ⟨i,ho⟩=>(h.own b ⟨i,(hob _ _).1 ho⟩).2) (fun _ i e he=>.inl ⟨by rw[hid] at he;exact he,fun _ _ _ _ _=>rfl⟩) (fun i i' b h1 h2=>h.inj i i' b ((hob _ _).1 h1) ((hob _ _).1 h2))
    exact⟨κ,_,w,.inl rfl,k1.same Fr.sub,k2,by simp [MR]⟩
   ·cases hvx
  ·rw[hk] at hvx
   rcases hvx with⟨_,hvx,_⟩|⟨b',sz'',tot',off,cap,hvx,hv,g1,g2,g3,g4⟩
   ·cases hvx
   ·simp only[Qb,KI.arr.injEq] at hvx
    obtain⟨rfl,rfl,rfl⟩:=hvx
    have hvl:=hPx.length
    have hb1:off+N*sz'≤cur.size:=by
     have:=Nat.mul_le_mul_right sz' (show N≤cap by omega)
     omega
    have hst0:=run_storeCells_at P b off ty0 (us.take (N*sz')) 0 cur w hg (by rw[hnl];simpa using hb1) (fun v hv=>q3 v (QF hv))
    simp only[Nat.add_zero] at hst0
    have hr:(Builtin.copy_ #[t,u] o.type #[Act.eval ⟨tm,df⟩ xo,Act.eval ⟨tm,df⟩ yo]).run P w=.ok (.int .i64 N) (w.setRow b (cur.toList.take off++us.take (N*sz')++cur.toList.drop (off+(us.take (N*sz')).length)).toArray):=by
     have hm:Nat.min ys.length len=N:=hN
     rw[hv]
     simp [Builtin.copy_,run_underlying ht,q1,hsz,hm,hfc,goInt,hst0]
    rw[hr]
    simp only[Result.andThen_ok]
    rw[hnl]
    have hst:=Qbt w b (cur.toList.take off++us.take (N*sz')++cur.toList.drop (off+N*sz')).toArray hg (by simp only[List.size_toArray,Ql,Qj,List.length_drop,Array.length_toList,hnl];omega)
    have hob:OB κ hp w id b:=⟨_,_,hl,rfl,hk,.inl rfl⟩
    have hoff:0<N→off=lo*sz':=fun h0=>g4 (.inl (by omega))
    obtain⟨j1,j2⟩:=h.change (F':=Fr F n) hob hst Fr.sub (ent:=.arr sz' (XY xs lo (ys.take N))) (fun keep=>by
     simp only[ER]
     have hsl:(XY xs lo (ys.take N)).length=xs.length:=by
      simp only[XY,Ql,Qj,List.length_drop];omega
     refine⟨by rw[hsl];exact hmax,.inr ⟨b,tot,_,ty0,vs.take (lo*sz')++us.take (N*sz')++vs.drop ((lo+N)*sz'),hk,setRow_heap w b cur _ ty0 _ hg,?_,?_,?_⟩⟩
     ·simp only[List.size_toArray,Ql,Qj,List.length_drop,Array.length_toList,hnl];omega
     ·refine Mem.set (setRow_heap w b cur _ ty0 _ hg) fun j uu hj=>?_
      have hcv:∀k,k<vs.length→cur.toList[k]?=vs[k]?:=fun k hk=>by
       have:=Mem.cells hg hM k _ (Qq hk)
       rw[Qq hk]
       simpa using this
      simp only[List.getElem?_toArray]
      by_cases h0:0<N
      ·have ho:=hoff h0
       have e1:(lo+N)*sz'=off+N*sz':=by rw[Nat.add_mul,ho]
       have hle:off+N*sz'≤vs.length:=by
        rw[←e1,hvl]
        exact Nat.mul_le_mul_right _ (by omega)
       rw[e1,←ho] at hj
       rw[←hj]
       have hlt:=(Qw.1 hj).1
       rw[Ql,Ql,Qj,List.length_drop,hnl,Nat.min_eq_left (by omega)] at hlt
       have hvc:vs.length≤cur.toList.length:=by
        have ecur:cur.toList.length=cur.size:=Array.length_toList
        rcases Nat.lt_or_ge 0 vs.length with c|c
        ·have:=Mem.le hg hM c
         omega
        ·omega
       exact QQg hcv hnl hle hvc (by omega)
      ·obtain rfl:N=0:=by omega
       simp only[Nat.zero_mul,List.take_zero,Nat.add_zero,List.append_nil,List.take_append_drop] at hj ⊢
       have hlt:=(Qw.1 hj).1
       rw[hcv j hlt];exact hj
     ·obtain⟨a1,a2,rfl,p1,p2⟩:=hPx.take lo
      obtain⟨c1,c2,hc12,p3,p4⟩:=hPx.take (lo+N)
      have e1:(a1++a2).take (lo*sz')=a1:=by rw[List.take_left'];rw[p1.length,Qj];congr 1;omega
      have e2:(a1++a2).drop ((lo+N)*sz')=c2:=by
       rw[hc12,List.drop_left']
       rw[p3.length,Qj];congr 1;omega
      rw[e1,e2]
      have e3:XY xs lo (ys.take N)=xs.take lo++ys.take N++xs.drop (lo+N):=by simp only[XY,htk]
      have hPE:=PE.append.2 ⟨_,_,rfl,PE.append.2 ⟨_,_,rfl,PE.mono keep _ _ _ p1,PE.mono keep _ _ _ hPn⟩,PE.mono keep _ _ _ p4⟩
      rw[←e3] at hPE
      exact hPE)
    exact⟨κ,_,_,.inl rfl,j1,j2,by simp [MR]⟩
end
set_option linter.unusedVariables false
set_option linter.unusedSimpArgs false
section
variable {P:Program} {B:Base} {κ:Nat→Option KI} {hp hp':qHp} {F:Nat→Prop} {w:World} {sl:qSl} {tm:Array Value} {df:List Deferred} {n:Nat} {d:D}
theorem QQi{md:Nat→List Md}{t:TypeId}{s:Nat}(h:Qcd P md t=some s):∃e,P.underlying t=some (.slice e)∧XG P e=some s:=by
 unfold Qcd at h
 split at h
 ·cases h
 ·split at h
  ·rename_i e he
   split at h
   ·rename_i s' h1 h2
    simp only[Qb] at h
    subst h
    unfold YO at he
    split at he
    ·rename_i hu
     simp only[Qb] at he
     subst he
     exact⟨_,hu,h2⟩
    ·cases he
   ·cases h
  ·cases h
theorem QQj(h:RH B κ hp F w)(hs:RS B κ hp w sl tm){o:Oper}{c:Call}(ho:o.op=.call c)(hc:c.callee=.builtin .cap){t:TypeId}(ht:c.argTypes.toList=[t]){xo:Operand}(ha:c.args.toList=[xo]){x:X}(hx:cX xo=some x){e:TypeId}(hu:P.underlying t=some (.slice e))
  (he:eff n sl hp (.cap x)=some (d,hp')):Res P B κ hp hp' (Fr F n) w ((execOp (Act.eval ⟨tm,df⟩) o).run P w) d:=by
 simp only[eff] at he
 have ht':c.argTypes=#[t]:=by apply Array.ext';simpa using ht
 have ha':c.args=#[xo]:=by apply Array.ext';simpa using ha
 have run:∀a len cap,Act.eval ⟨tm,df⟩ xo=.slice a len cap→(execOp (Act.eval ⟨tm,df⟩) o).run P w=.ok (.value (.int .i64 cap)) w:=by
  intro a len cap hv
  simp [execOp,ho,resolve,hc,ha',ht',invoke,builtin,Builtin.cap_,run_underlying hu,hv,goInt]
 cases hd:ev sl x with
 |none=>simp [hd] at he
 |some dx=>
  have hv:=XD (df:=df) hs hx hd
  cases dx<;>simp only[hd,Qb,Qe,reduceCtorEq] at he
  case nl=>
   obtain⟨rfl,rfl⟩:=he
   simp only[MR] at hv
   exact Res.pure h Fr.sub (run _ _ _ hv) (by simp [MR])
theorem QQk(h:RH B κ hp F w)(hs:RS B κ hp w sl tm)(hF:∀k,k<64→F (n+k)){o:Oper}{c:Call}(ho:o.op=.call c)(hc:c.callee=.builtin .append){t u:TypeId}(hat:c.argTypes.toList=[t,u]){xo yo:Operand}(ha:c.args.toList=[xo,yo])
  {e:TypeId} {kn:IntKind} (ht:P.underlying t=some (.slice e)) (hu:P.underlying u=some (.int kn)) {s:Nat} (hz:XG P e=some s) (hs0:s≠0) {i:TypeInfo} (hi:P.info? e=some i)
  {z:D} (hze:JO P e=some z) (hoe:XT s z=true) {x y:X} (hx:cX xo=some x) (hy:cX yo=some y) (he:eff n sl hp (.appz s i.bytes z x y)=some (d,hp')):
  Res P B κ hp hp' (Fr F n) w ((execOp (Act.eval ⟨tm,df⟩) o).run P w) d:=by
 have hsz:i.size=s:=by simpa [XG,hi] using hz
 have hat':c.argTypes=#[t,u]:=by apply Array.ext';simpa using hat
 have ha':c.args=#[xo,yo]:=by apply Array.ext';simpa using ha
 have hrun:(execOp (Act.eval ⟨tm,df⟩) o).run P w=((Builtin.append_ #[t,u] o.type #[Act.eval ⟨tm,df⟩ xo,Act.eval ⟨tm,df⟩ yo]).run P w).andThen fun v w'=>.ok (.value v) w':=by
  simp [execOp,ho,resolve,hc,ha',hat',invoke,builtin]
 rw[hrun]
 simp only[eff] at he
 split at he
 ·rename_i sz' m hdx hdy
  split at he
  ·rename_i hcnd
   obtain⟨c1,c2⟩:=hcnd
   simp only[Qb,Qe] at he
   obtain⟨rfl,rfl⟩:=he
   cases hdy':ev sl y with
   |none=>simp [hdy'] at hdy
   |some dy=>
    simp only[hdy',Option.bind_some] at hdy
    have hvx:=XD (df:=df) hs hx hdx
    have hvy:=XD (df:=df) hs hy hdy'
    rw[Qbp hdy,MR.int] at hvy
    simp only[MR] at hvx
    obtain⟨f1,f2⟩:=Qcf c2
    obtain⟨v,hzv,hzz,g1,g2⟩:=Qdt (w:=w) (I:=Im B κ hp w) hze hoe
    have hzero:i.zero=some v:=by simpa [hi] using hzz
    have hP:=PE.replicate g1 g2 m.toNat
    have hvs:v.cells.size=s:=by simpa using g2
    have hmy:(Value.int .i64 m)=.int .i64 (m.toNat:Int):=by rw[Int.toNat_of_nonneg (by omega)]
    have hnx:Builtin.nextslicecap (0+m.toNat) 0*i.bytes≤281474976710656:=growslice_fits (by omega) (by rw[Nat.zero_add];exact f1)
    rw[hvx,hvy,hmy,Go.Lib.run_append_grow_zeros w t u o.type e i v .i64 kn ht hu hi hzero none 0 0 [] (run_firstCells_none w.drew i.size 0 0 0) m.toNat (by omega) (by omega) (by omega) (by simp only[QW] at f2;omega) (by omega) hnx]
    simp only[Result.andThen_ok]
    have hge:=grownCap_ge w (0+m.toNat) 0 e
    have hle:=Qny (w:=w) (need:=0+m.toNat) (old:=0) (e:=e) (by omega)
    have hzl:(Builtin.zeroCells v.cells m.toNat).toList=(List.replicate m.toNat v.cells.toList).flatten:=Qds v.cells m.toNat
    simp only[Nat.zero_add] at hge hle ⊢
    refine Qdu h hF (cur:=#[]++Builtin.zeroCells v.cells m.toNat++Builtin.zeroCells v.cells (grownCap w m.toNat 0 e-m.toNat)) (w':=w.drew.alloc (.cells (#[]++Builtin.zeroCells v.cells m.toNat++Builtin.zeroCells v.cells (grownCap w m.toNat 0 e-m.toNat)) e))
     (us:=(List.replicate m.toNat v.cells.toList).flatten) (cap:=grownCap w m.toNat 0 e) (ty:=e) rfl rfl rfl ⟨rfl,Nat.le_succ _⟩ (fun j u hj=>?_) hP (by simp) f2 hge hle ?_ rfl (Nxt.refl _ _ _ _)
    ·rw[←hzl] at hj
     have hlt:=(Qw.1 hj).1
     rw[←Array.getElem?_toList]
     simp only[Array.toList_append,List.nil_append]
     rw[Qy (by simpa using hlt)]
     exact hj
    ·simp only[Array.size_append,List.size_toArray,List.length_nil,size_zeroCells,hvs]
     have:m.toNat*s+(grownCap w m.toNat 0 e-m.toNat)*s=grownCap w m.toNat 0 e*s:=by
      rw[←Nat.add_mul]
      congr 1
      omega
     omega
  ·cases he
 ·cases he
theorem QQl(h:RH B κ hp F w)(hs:RS B κ hp w sl tm){o:Oper}{xo:Operand}(ho:o.op=.nilCheck xo){x:X}(hx:cX xo=some x)
  (he:eff n sl hp (.fad 0 x)=some (d,hp')):Res P B κ hp hp' (Fr F n) w ((execOp (Act.eval ⟨tm,df⟩) o).run P w) d:=by
 simp only[eff] at he
 have run:∀a,Act.eval ⟨tm,df⟩ xo=.pointer (some a)→(execOp (Act.eval ⟨tm,df⟩) o).run P w=.ok (.value (.pointer (some a))) w:=by
  intro a hv
  simp [execOp,ho,hv]
 cases hd:ev sl x with
 |none=>simp [hd] at he
 |some dx=>
  have hv:=XD (df:=df) hs hx hd
  cases dx<;>simp only[hd,reduceCtorEq] at he
  case ref cs=>
   split at he
   ·simp only[Qb,Qe] at he
    obtain⟨rfl,rfl⟩:=he
    have hv2:=hv
    simp only[MR,DR] at hv2
    obtain⟨_,b,o',us,hv2,_⟩:=hv2
    refine Res.pure h Fr.sub (run _ hv2) ?_
    rw[hv2] at hv
    exact hv
   ·cases he
  case pt id o'=>
   simp only[Qb,Qe] at he
   obtain⟨rfl,rfl⟩:=he
   have hv2:=hv
   simp only[MR] at hv2
   obtain⟨b,hk,hv2⟩:=hv2
   rw[hv2] at hv
   exact Res.pure h Fr.sub (run _ hv2) hv
  case pe id j o'=>
   simp only[Qb,Qe] at he
   obtain⟨rfl,rfl⟩:=he
   have hv2:=hv
   simp only[MR] at hv2
   obtain⟨b,sz,tot,hk,hv2⟩:=hv2
   rw[hv2] at hv
   exact Res.pure h Fr.sub (run _ hv2) hv
theorem QQm(h:RH B κ hp F w)(hs:RS B κ hp w sl tm){o:Oper}{c:Call}(ho:o.op=.call c)(hc:c.callee=.builtin .clear){t:TypeId}(ht:c.argTypes.toList=[t]){xo:Operand}(ha:c.args.toList=[xo]){x:X}(hx:cX xo=some x){e:TypeId}(hu:P.underlying t=some (.slice e))
  {s:Nat} (hz:XG P e=some s) (hs0:s≠0) {z:D} (hze:JO P e=some z) (hoe:XT s z=true)
  (he:eff n sl hp (.clr s x)=some (d,hp')):Res P B κ hp hp' (Fr F n) w ((execOp (Act.eval ⟨tm,df⟩) o).run P w) d:=by
 have ht':c.argTypes=#[t]:=by apply Array.ext';simpa using ht
 have ha':c.args=#[xo]:=by apply Array.ext';simpa using ha
 have hrun:(execOp (Act.eval ⟨tm,df⟩) o).run P w=((Builtin.clear_ #[t] o.type #[Act.eval ⟨tm,df⟩ xo]).run P w).andThen fun v w'=>.ok (.value v) w':=by
  simp [execOp,ho,resolve,hc,ha',ht',invoke,builtin]
 rw[hrun]
 simp only[eff] at he
 have hnb:∀b:Bool,(Value.tuple #[])≠.bool b:=fun b e=>by cases e
 split at he
 ·rename_i sz' hdx
  simp only[Qb,Qe] at he
  obtain⟨rfl,rfl⟩:=he
  have hvx:=XD (df:=df) hs hx hdx
  simp only[MR] at hvx
  have hr:(Builtin.clear_ #[t] o.type #[Act.eval ⟨tm,df⟩ xo]).run P w=.ok (.tuple #[]) w:=by
   rw[hvx];simp [Builtin.clear_,run_underlying hu]
  rw[hr]
  exact Res.pure h Fr.sub rfl (by simp only[MR];exact hnb)
 ·rename_i id lo len hdx
  split at he
  case h_2=>cases he
  rename_i sz' xs hl
  split at he
  case isFalse=>cases he
  rename_i hcnd
  obtain⟨rfl,c1,c2⟩:=hcnd
  simp only[Qb,Qe] at he
  obtain⟨rfl,rfl⟩:=he
  have hvx:=XD (df:=df) hs hx hdx
  simp only[MR] at hvx
  have hent:=h.ent id _ hl
  simp only[ER] at hent
  have noop:xs.length=lo→(Builtin.clear_ #[t] o.type #[Act.eval ⟨tm,df⟩ xo]).run P w=.ok (.tuple #[]) w→Res P B κ hp (up hp id (.arr sz' (xs.take lo))) (Fr F n) w (((Builtin.clear_ #[t] o.type #[Act.eval ⟨tm,df⟩ xo]).run P w).andThen fun v w'=>.ok (.value v) w') .undef:=fun hlen hr=>by
   have hlk:∀i,lk (up hp id (.arr sz' (xs.take lo))) i=lk hp i:=fun i=>by
    rw[Yw]
    split
    ·rename_i hi;subst hi;rw[hl,QA (by omega)]
    ·rfl
   have hob:∀i b,OB κ (up hp id (.arr sz' (xs.take lo))) w i b↔OB κ hp w i b:=fun i b=>by simp only[OB,hlk]
   obtain⟨k1,k2⟩:=h.next (κ':=κ) (hp':=up hp id (.arr sz' (xs.take lo))) (F':=Fr F n) (w':=w) (fun _ _ h=>h) (Stp.refl _ _) (fun b ⟨i,ho⟩=>.inl ⟨i,(hob _ _).1 ho⟩) (fun i hi=>h.fr i (Fr.sub i hi)) (fun b ⟨i,ho⟩=>(h.own b ⟨i,(hob _ _).1 ho⟩).2) (fun _ i e he=>.inl ⟨by rw[hlk] at he;exact he,fun _ _ _ _ _=>rfl⟩) (fun i i' b h1 h2=>h.inj i i' b ((hob _ _).1 h1) ((hob _ _).1 h2))
   rw[hr]
   exact⟨κ,.tuple #[],w,.inl rfl,k1,k2,by simp only[MR];exact hnb⟩
  rcases hvx with⟨sz2,m1,hv,_,rfl⟩|⟨b,sz2,tot,off,cap,m1,hv,m2,m3,m4,m5⟩
  ·exact noop (by omega) (by rw[hv];simp [Builtin.clear_,run_underlying hu])
  ·by_cases h0:len=0
   ·subst h0
    exact noop (by omega) (by rw[hv];simp [Builtin.clear_,run_underlying hu])
   ·have hoff:=m5 (.inl (by omega))
    rcases hent.2 with⟨g1,_⟩|⟨b2,tot2,cur,ty,us,g1,g2,g3,g4,g5⟩
    ·rw[m1] at g1;cases g1
    ·rw[m1] at g1
     simp only[Qb,KI.arr.injEq] at g1
     obtain⟨rfl,rfl,rfl⟩:=g1
     obtain⟨v,hzv,_,p1,p2⟩:=Qdt (w:=w) (I:=Im B κ hp w) hze hoe
     have hzl:(Builtin.zeroCells v.cells len).toList=(List.replicate len v.cells.toList).flatten:=Qds v.cells len
     have hzn:(Builtin.zeroCells v.cells len).toList.length=len*sz2:=by
      rw[hzl];simp at p2 ⊢;rw[p2]
     have hone:∀u∈(Builtin.zeroCells v.cells len).toList,u.oneCell'=true:=by
      intro u hu
      rw[hzl,List.mem_flatten] at hu
      obtain⟨l,hl,hu⟩:=hu
      rw[List.eq_of_mem_replicate hl] at hu
      exact p1.one u hu
     have hle:off+len*sz2≤cur.size:=by
      have:len*sz2≤cap*sz2:=Nat.mul_le_mul_right _ m2
      omega
     have hst0:=run_storeCells_at P b off ty (Builtin.zeroCells v.cells len).toList 0 cur w g2 (by omega) hone
     simp only[Nat.add_zero,hzn] at hst0
     obtain⟨m,rfl⟩:∃m,len=m+1:=⟨len-1,by omega⟩
     have hr:(Builtin.clear_ #[t] o.type #[Act.eval ⟨tm,df⟩ xo]).run P w=.ok (.tuple #[]) (w.setRow b (cur.toList.take off++(Builtin.zeroCells v.cells (m+1)).toList++cur.toList.drop (off+(m+1)*sz2)).toArray):=by
      rw[hv]
      simp [Builtin.clear_,run_underlying hu,hzv]
      simp at hst0
      rw[hst0]
      rfl
     rw[hr]
     have hob:OB κ hp w id b:=⟨_,_,hl,rfl,m1,.inl rfl⟩
     have hst:=Qbt w b (cur.toList.take off++(Builtin.zeroCells v.cells (m+1)).toList++cur.toList.drop (off+(m+1)*sz2)).toArray g2 (by simp only[List.size_toArray,Ql,Qj,List.length_drop,Array.length_toList,hzn] at hzn ⊢;omega)
     obtain⟨k1,k2⟩:=h.change (F':=Fr F n) hob hst Fr.sub (ent:=.arr sz2 (xs.take lo)) (fun keep=>by
      obtain⟨u,u',rfl,q1,q2⟩:=g5.take lo
      have hul:u.length=off:=by rw[q1.length,Qj,hoff];congr 1;omega
      simp only[ER]
      refine⟨by have:=hent.1;simp;omega,.inr ⟨b,tot,_,ty,u,m1,setRow_heap w b cur _ ty _ g2,?_,?_,PE.mono keep _ _ _ q1⟩⟩
      ·simp only[List.size_toArray,Ql,Qj,List.length_drop,Array.length_toList,hzn] at hzn ⊢;omega
      ·refine Mem.set (setRow_heap w b cur _ ty _ g2) (fun j uu hj=>?_)
       have hlt:=(Qw.1 hj).1
       have hc:=Mem.cells g2 (Mem.append.1 g4).1 j uu hj
       simp only[Nat.zero_add] at hc
       rw[←Array.getElem?_toList]
       simp only[QC]
       rw[Qy (by rw[Qj,Array.length_toList];omega),List.getElem?_take,if_pos (by omega)]
       simpa using hc)
     exact⟨κ,.tuple #[],_,.inl rfl,k1,k2,by simp only[MR];exact hnb⟩
 ·cases he
set_option maxHeartbeats 1000000 in
theorem QQn(h:RH B κ hp F w)(hs:RS B κ hp w sl tm)(hF:∀k,k<64→F (n+k)){md:Nat→List Md}{o:Oper}{lop:LOp}(hc:cOp P md o=some lop)(he:eff n sl hp lop=some (d,hp')):
  Res P B κ hp hp' (Fr F n) w ((execOp (Act.eval ⟨tm,df⟩) o).run P w) d:=by
 unfold cOp at hc
 split at hc
 case h_1 x hop=>
  cases hx:cX x with
  |none=>simp [hx] at hc
  |some y=>simp only[hx,Option.map_some,Qb] at hc;subst hc;exact Qnt h hs (.inl hop) hx he
 case h_2 hop=>
  cases hz:(YO P o.type).bind (XG P) with
  |none=>simp [hz] at hc
  |some y=>simp only[hz,Option.map_some,Qb] at hc;subst hc;exact QP5 h hop he
 case h_3 x hop _=>
  cases hx:cX x with
  |none=>simp [hx] at hc
  |some y=>simp only[hx,Option.map_some,Qb] at hc;subst hc;exact Qnt h hs (.inr ‹_›) hx he
 case h_4 c a b hop=>
  split at hc
  ·rename_i h1 h2 h3;simp only[Qb] at hc;subst hc;exact QP6 h hs hop h1 h2 h3 he
  ·cases hc
 case h_5 e hop=>
  cases hz:zOf P e with
  |none=>simp [hz] at hc
  |some z=>
   simp only[hz,Option.map_some,Qb] at hc;subst hc
   simp only[eff,Qb,Qe] at he
   obtain⟨rfl,rfl⟩:=he
   exact QPO h hF hop hz
 case h_6 e x hop=>
  cases hx:cX x with
  |none=>simp [hx] at hc
  |some y=>
   simp only[hx,Option.map_some,Qb] at hc;subst hc
   simp only[eff] at he
   cases hd:(ev sl y).bind Yb with
   |none=>simp [hd] at he
   |some cs=>
    simp only[hd,Option.map_some,Qb,Qe] at he
    obtain⟨rfl,rfl⟩:=he
    exact QPP h hs hF hop hx hd
 case h_7 t ps hop=>
  split at hc
  ·rename_i fs hu
   split at hc
   ·rename_i pls z l h1 h2 h3;simp only[Qb] at hc;subst hc;exact QPS h hs hop hu h1 h2 h3 he
   ·cases hc
  ·cases hc
 case h_8 t m ps hop=>
  unfold YO at hc
  split at hc
  ·rename_i e hu
   split at hu
   ·rename_i e' hu'
    simp only[Qb] at hu
    subst hu
    split at hc
    ·rename_i s i z l h1 h2 h3 h4
     split at hc
     ·cases hc
     ·rename_i hcond
      simp only[Qb] at hc;subst hc
      simp only[not_or,Nat.not_lt] at hcond
      exact QP4 h hs hF hop hu' h1 hcond.1 hcond.2.1 h3 (by simpa using hcond.2.2) h4 he
    ·cases hc
   ·cases hu
  ·cases hc
 case h_9 t a hop=>
  split at hc
  ·rename_i h1 h2 h3
   split at hc
   ·cases hc
   ·split at hc
    ·split at hc
     ·rename_i hag;simp only[Qb] at hc;subst hc;simp [eff] at he
     ·cases hc
    ·simp only[Qb] at hc;subst hc;exact QPQ h hs hop h3 h1 h2 he
  ·cases hc
 case h_10 t a v hop=>
  split at hc
  ·rename_i h1 h2 h3
   split at hc
   ·cases hc
   ·rename_i h0
    split at hc
    ·split at hc
     ·rename_i hm;simp only[Qb] at hc;subst hc;simp [eff] at he
     ·cases hc
    ·split at hc
     ·simp only[Qb] at hc;subst hc;simp [eff] at he
     ·simp only[Qb] at hc;subst hc;exact QQc h hs hop h2 h3 h1 h0 he
  ·cases hc
 case h_11 op t x y u hop=>
  unfold Qbl at hc
  split at hc
  ·rename_i h1 h2 h3;simp only[Qb] at hc;subst hc;exact QP9 h hs hop h2 h3 he
  ·rename_i h1 h2 h3
   split at hc
   ·simp only[Qb] at hc;subst hc;exact Qnu (neg:=false) h hs hop h2 h3 h1 he
   ·simp only[Qb] at hc;subst hc;exact Qnu (neg:=true) h hs hop h2 h3 h1 he
   ·cases hc
  ·rename_i h1 h2 h3
   split at hc
   ·rename_i hm;simp only[Qb] at hc;subst hc;exact Qnv (neg:=false) h hs hop h2 h3 hm he
   ·rename_i hm;simp only[Qb] at hc;subst hc;exact Qnv (neg:=true) h hs hop h2 h3 hm he
   ·cases hc
  ·split at hc
   ·simp only[Qb] at hc;subst hc;simp [eff] at he
   ·simp only[Qb] at hc;subst hc;simp [eff] at he
   ·cases hc
  ·cases hc
 case h_12 t x hop=>
  cases hx:cX x with
  |none=>simp [hx] at hc
  |some y=>simp only[hx,Option.map_some,Qb] at hc;subst hc;exact QP7 h hs hop hx he
 case h_13 s t x hop=>
  split at hc
  ·rename_i h1 h2 h3;simp only[Qb] at hc;subst hc;exact QP8 h hs hop h3 h1 h2 he
  ·cases hc
 case h_14 f first caps hop=>
  split at hc
  ·rename_i hf
   cases hx:Q1 cX caps.toList with
   |none=>simp [hx] at hc
   |some l=>simp only[hx,Option.map_some,Qb] at hc;subst hc;exact QP2 h hs hop hf hx he
  ·cases hc
 case h_15 t l c hop=>
  split at hc
  ·rename_i hsame
   unfold YO at hc
   split at hc
   ·rename_i e hu
    split at hu
    ·rename_i e' hu'
     simp only[Qb] at hu
     subst hu
     split at hc
     ·rename_i s i z l h1 h2 h3 h4
      split at hc
      ·cases hc
      ·rename_i hcond
       simp only[not_or] at hcond
       split at hc
       ·rename_i s' hns
        obtain⟨e2,hu2,_⟩:=QQi hns
        split at hc
        ·rename_i hs1
         simp only[Qb] at hc;subst hc
         subst hs1
         simp [eff] at he
        ·cases hc
       ·simp only[Qb] at hc;subst hc
        exact QQa h hs hF hop hsame hu' h1 h2 h3 (by simpa using hcond.2) h4 he
     ·cases hc
    ·cases hu
   ·cases hc
  ·cases hc
 case h_16 t x lo hi hop=>
  split at hc
  ·rename_i s x' lo' hi' h1 h2 h3 h4
   simp only[Qb] at hc;subst hc
   cases hu:YO P t with
   |none=>simp [hu] at h1
   |some e=>
    simp only[hu,Option.bind_some] at h1
    unfold YO at hu
    split at hu
    ·rename_i e' hu'
     simp only[Qb] at hu;subst hu
     exact QQb h hs hop hu' h1 h2 h3 h4 he
    ·cases hu
  ·cases hc
 case h_17 t x f hop=>
  split at hc
  ·rename_i h1 h2;simp only[Qb] at hc;subst hc;exact QPT h hs hop h2 h1 he
  ·cases hc
 case h_18 t x f hop=>
  split at hc
  ·rename_i h1 h2;simp only[Qb] at hc;subst hc;exact QPU h hs hop h2 h1 he
  ·cases hc
 case h_19 t x i hop=>
  split at hc
  ·rename_i e x' i' h1 h2 h3
   cases hz:XG P e with
   |none=>simp [hz] at hc
   |some s=>
    simp only[hz,Option.bind_some] at hc
    split at hc
    ·cases hc
    ·simp only[Qb] at hc;subst hc;exact QPW h hs hop h2 h3 h1 hz he
  ·rename_i m e x' i' h1 h2 h3
   cases hz:XG P e with
   |none=>simp [hz] at hc
   |some s=>
    simp only[hz,Option.bind_some] at hc
    split at hc
    ·cases hc
    ·simp only[Qb] at hc;subst hc;exact QPX h hs hop h2 h3 h1 hz he
  ·cases hc
 case h_20 t x i hop=>
  split at hc
  ·rename_i m e x' i' h1 h2 h3
   split at hc
   ·rename_i h4 h5
    split at hc
    ·cases hc
    ·simp only[Qb] at hc;subst hc;exact QPV h hs hop h2 h3 h1 h4 h5 he
   ·cases hc
  ·cases hc
 case h_21 x i hop=>
  cases hx:cX x with
  |none=>simp [hx] at hc
  |some y=>simp only[hx,Option.map_some,Qb] at hc;subst hc;exact QP1 h hs hop hx he
 case h_22 c hop=>
  split at hc
  ·rename_i hcl
   split at hc
   ·rename_i t u x y hat hargs
    split at hc
    ·rename_i e e' hu1 hu2
     unfold YO at hu1
     split at hu1
     ·rename_i e'' hu1'
      simp only[Qb] at hu1;subst hu1
      split at hc
      ·rename_i s i x' y' h1 h2 h3 h4
       split at hc
       ·cases hc
       ·rename_i hcond
        simp only[Qb] at hc;subst hc
        simp only[not_or,ne_eq,Qo] at hcond
        obtain⟨_,_,c3,c4⟩:=hcond
        cases hzz:i.zero with
        |none=>simp [hzz] at c3
        |some z=>
         simp only[hzz,Option.map_some,Qb] at c4
         exact QQf h hs hF hop hcl hat hargs hu1' hu2 h1 h2 hzz c4 h3 h4 he
      ·cases hc
     ·cases hu1
    ·rename_i e k hu1 hu2
     unfold YO at hu1
     split at hu1
     ·rename_i e'' hu1'
      simp only[Qb] at hu1;subst hu1
      split at hc
      ·rename_i s i z x' y' h1 h2 h3 h4 h5
       split at hc
       ·cases hc
       ·rename_i hcond
        simp only[Qb] at hc;subst hc
        simp only[not_or,Qo] at hcond
        exact QQk h hs hF hop hcl hat hargs hu1' hu2 h1 hcond.1 h2 h3 hcond.2.2 h4 h5 he
      ·cases hc
     ·cases hu1
    ·cases hc
   ·cases hc
  ·rename_i hcl
   split at hc
   ·rename_i t x hat hargs
    split at hc
    ·rename_i e hu
     cases hx:cX x with
     |none=>simp [hx] at hc
     |some y=>simp only[hx,Option.map_some,Qb] at hc;subst hc;exact QPY h hs hop hcl hat hargs hx hu he
    ·cases hc
   ·cases hc
  ·rename_i hcl
   split at hc
   ·rename_i t x hat hargs
    split at hc
    ·rename_i e hu
     cases hx:cX x with
     |none=>simp [hx] at hc
     |some y=>simp only[hx,Option.map_some,Qb] at hc;subst hc;exact QQj h hs hop hcl hat hargs hx hu he
    ·cases hc
   ·cases hc
  ·rename_i hcl
   split at hc
   ·rename_i t x hat hargs
    split at hc
    ·rename_i e hu
     unfold YO at hu
     split at hu
     ·rename_i e'' hu'
      simp only[Qb] at hu;subst hu
      split at hc
      ·rename_i s z x' h1 h2 h3
       split at hc
       ·cases hc
       ·rename_i hcond
        simp only[Qb] at hc;subst hc
        simp only[not_or,Qo] at hcond
        exact QQm h hs hop hcl hat hargs h3 hu' h1 hcond.1 h2 hcond.2 he
      ·cases hc
     ·cases hu
    ·cases hc
   ·cases hc
  ·rename_i hcl
   cases hx:Q1 cX c.args.toList with
   |none=>simp [hx] at hc
   |some y=>simp only[hx,Option.map_some,Qb] at hc;subst hc;exact QPZ h hs hop hcl hx he
  ·rename_i hcl
   cases hx:Q1 cX c.args.toList with
   |none=>simp [hx] at hc
   |some y=>simp only[hx,Option.map_some,Qb] at hc;subst hc;exact QP0 h hs hop hcl hx he
  ·cases hx:Q1 cX c.args.toList with
   |none=>simp [hx] at hc
   |some y=>simp only[hx,Option.map_some,Qb] at hc;subst hc;simp [eff] at he
  ·split at hc
   ·split at hc<;>(simp only[Qb] at hc;subst hc;simp [eff] at he)
   ·cases hc
  ·rename_i hcl
   split at hc
   ·rename_i t u x y hat hargs
    split at hc
    ·rename_i e hu
     unfold YO at hu
     split at hu
     ·rename_i e'' hu'
      simp only[Qb] at hu;subst hu
      split at hc
      ·rename_i s x' y' h1 h2 h3
       split at hc
       ·cases hc
       ·simp only[Qb] at hc;subst hc
        exact QQh h hs hop hcl hat hargs hu' h1 h2 h3 he
      ·cases hc
     ·cases hu
    ·cases hc
   ·cases hc
  ·cases hc
 case h_23 x hop=>
  cases hx:cX x with
  |none=>simp [hx] at hc
  |some y=>simp only[hx,Option.map_some,Qb] at hc;subst hc;exact QQl h hs hop hx he
 case h_24=>cases hc
end
end Go.Am
