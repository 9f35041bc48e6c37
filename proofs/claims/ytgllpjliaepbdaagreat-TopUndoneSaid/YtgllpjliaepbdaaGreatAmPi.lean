/- Contracts and what they rest on: AmPi. -/
import Derived.Test.YtgllpjliaepbdaaGreatAmPh
import Derived.SizedLaws
import Derived.ChangeArms
import Derived.ChangeShapes
import Derived.Carry
import Derived.JoinedOf
import Derived.JoinedAt
import Derived.KernelRfl
import Derived.Test.YtgllpjliaepbdaaGreatAmEv
set_option linter.unusedVariables false
set_option linter.unusedSimpArgs false
set_option linter.unnecessarySimpa false
namespace Go.Am
open Go Go.ChangeShapes Go.RowKit
inductive Sh where
 |int (k:IntKind)
 |bool
 |slc (sz bytes:Nat) (e:Sh)
 |cat (l:List Sh)
 deriving Inhabited,Repr
def QbZ(P:Program)(f:TypeId→Option Sh)(fin:Nat):List Field→Nat→Option (List Sh)
 |[],off=>if off=fin then some [] else none
 |x::l,off=>if x.offset=off then (match f x.type,QbZ P f fin l (off+P.cellsOf x.type) with
  |some s,some r=>some (s::r)
  |_,_=>none) else none
def Zv(P:Program):Nat→Bool→TypeId→Option Sh
 |0,_,_=>none
 |n+1,top,t=>match P.underlying t with
  |some (.int k)=>some (.int k)
  |some .bool=>some .bool
  |some (.slice e)=>if 0<P.cellsOf e∧0<P.bytesOf e then (Zv P n false e).map (.slc (P.cellsOf e) (P.bytesOf e)) else none
  |some (.struct fs)=>(QbZ P (Zv P n top) (P.cellsOf t) fs.toList 0).map .cat
  |some (.array m e)=>if P.cellsOf t=m*P.cellsOf e then (Zv P n top e).map fun s=>.cat (List.replicate m s) else none
  |_=>none
mutual
def Xx:Sh→D→Prop
 | .int k,x=>∃n,x=.int k n∧k.min≤n∧n≤k.max
 | .bool,x=>∃b,x=.bool b
 | .slc sz by_ e,x=>∃xs,x=.lst sz xs∧xs.length*by_≤reachBytes∧∀y∈xs,Xx e y
 | .cat l,x=>∃ds,x=.agg ds∧HasShs l ds
def HasShs:List Sh→List D→Prop
 |[],ds=>ds=[]
 | .cat l'::l,ds=>∃a b,ds=a++b∧HasShs l' a∧HasShs l b
 |s::l,ds=>∃a b,ds=a::b∧Xx s a∧HasShs l b
end
def HasCs(s:Sh)(ds:List D):Prop:=match s with
 | .cat l=>HasShs l ds
 |s=>∃x,ds=[x]∧Xx s x
theorem HasShs.cons{s:Sh}{l:List Sh}{a b:List D}(h:HasCs s a)(k:HasShs l b):HasShs (s::l) (a++b):=by
 cases s
 case cat l'=>exact (by simp only[HasShs];exact⟨a,b,rfl,h,k⟩)
 all_goals
  obtain⟨x,rfl,hx⟩:=h
  simp only[HasShs]
  exact⟨x,b,rfl,hx,k⟩
def QaE:List Sh→List D→Prop
 |[],ds=>ds=[]
 |s::l,ds=>∃a b,ds=a::b∧Xx s a∧QaE l b
section
variable {H:Type} {enc:TypeId×Value→H} {P:Program} {w:World}
def Qfo(w:World)(v:Value):Prop:=∀a len cap,v=.slice (some a) len cap→a.spot=none∧a.block<w.heap.size
def ZM(w:World)(b:Nat):Prop:=b<w.heap.size
theorem QiJ{top:Bool}{n fuel:Nat}{spare:Nat→Bool}{held:Bool}{fin:Nat}{cs:List Value}(hcs:cs.length=fin)
  (ih:∀(t:TypeId)(sh:Sh)(cs':List Value)(x:DataW H×List MemPlace),Zv P n top t=some sh→DataW.trod enc P w 0 spare held fuel t cs'=some x→(∀m∈x.1.weights P t,m≤reachBytes)→∃ds,PC w (ZM w) ds cs'∧HasCs sh ds):∀(fs:List Field)(off:Nat)(xs:List (DataW H×List MemPlace))(l:List Sh),QbZ P (Zv P n top) fin fs off=some l→xs.length=fs.length→
   (∀(i:Nat)(f:Field),fs[i]?=some f→DataW.trod enc P w 0 spare held fuel f.type ((cs.drop f.offset).take (P.cellsOf f.type))=xs[i]?)→
   (∀m∈DataW.weightsEach P (fs.map (·.type)) (xs.map (·.1)),m≤reachBytes)→∃ds,PC w (ZM w) ds (cs.drop off)∧HasShs l ds
 |[],off,xs,l,hs,hl,_,_=>by
  simp only[QbZ] at hs
  split at hs
  case isFalse=>cases hs
  rename_i ho
  simp only[Qb] at hs
  subst hs
  refine⟨[],?_,by simp [HasShs]⟩
  rw[QD (by omega)]
  simp [PC]
 |f::fs,off,[],l,hs,hl,_,_=>by simp at hl
 |f::fs,off,x::xs,l,hs,hl,ht,hw=>by
  simp only[QbZ] at hs
  split at hs
  case isFalse=>cases hs
  rename_i ho
  split at hs
  case h_2=>cases hs
  rename_i s r h1 h2
  simp only[Qb] at hs
  subst hs ho
  have h0:=ht 0 f rfl
  simp only[List.getElem?_cons_zero] at h0
  obtain⟨d1,p1,g1⟩:=ih f.type s _ x h1 h0 (fun m hm=>hw m (by simp only[List.map_cons,DataW.weightsEach,Qd];exact .inl hm))
  obtain⟨d2,p2,g2⟩:=QiJ hcs ih fs (f.offset+P.cellsOf f.type) xs r h2 (by simpa using hl) (fun i f' hi=>by simpa using ht (i+1) f' (by simpa using hi)) (fun m hm=>hw m (by simp only[List.map_cons,DataW.weightsEach,Qd];exact .inr hm))
  refine⟨d1++d2,PC.append.2 ⟨_,_,?_,p1,p2⟩,HasShs.cons g1 g2⟩
  rw[←List.drop_drop,List.take_append_drop]
theorem QiK{fuel c m:Nat}{e:TypeId}{s:Sh}{spare:Nat→Bool}{held:Bool}{cs:List Value}(hcs:cs.length=m*c)
  (ih:∀(cs':List Value)(x:DataW H×List MemPlace),DataW.trod enc P w 0 spare held fuel e cs'=some x→(∀m∈x.1.weights P e,m≤reachBytes)→∃ds,PC w (ZM w) ds cs'∧HasCs s ds) {xs:List (DataW H×List MemPlace)} (hl:xs.length=m) (ht:∀i,i<m→DataW.trod enc P w 0 spare held fuel e ((cs.drop (i*c)).take c)=xs[i]?)
  (hw:∀q∈DataW.weightsAll P e (xs.map (·.1)),q≤reachBytes):∀k,k≤m→∃ds,PC w (ZM w) ds (cs.drop ((m-k)*c))∧HasShs (List.replicate k s) ds
 |0,_=>by
  refine⟨[],?_,by simp [HasShs]⟩
  rw[Nat.sub_zero,QD (by omega)]
  simp [PC]
 |k+1,hk=>by
  obtain⟨d2,p2,g2⟩:=QiK hcs ih hl ht hw k (by omega)
  have h0:=ht (m-(k+1)) (by omega)
  have hxs:m-(k+1)<xs.length:=by omega
  rw[Qn hxs] at h0
  have hmem:∀q∈(xs[m-(k+1)]).1.weights P e,q∈DataW.weightsAll P e (xs.map (·.1)):=by
   intro q hq
   have:∀(ys:List (DataW H×List MemPlace))(y:DataW H×List MemPlace),y∈ys→∀q∈y.1.weights P e,q∈DataW.weightsAll P e (ys.map (·.1)):=by
    intro ys y hy q hq
    induction ys with
    |nil=>cases hy
    |cons z ys ih=>
     simp only[List.map_cons,DataW.weightsAll,Qd]
     rcases Qh.1 hy with rfl|hy
     ·exact .inl hq
     ·exact .inr (ih hy)
   exact this xs _ (List.getElem_mem hxs) q hq
  obtain⟨d1,p1,g1⟩:=ih _ _ h0 (fun q hq=>hw q (hmem q hq))
  refine⟨d1++d2,PC.append.2 ⟨_,_,?_,p1,p2⟩,by rw[List.replicate_succ];exact HasShs.cons g1 g2⟩
  have e1:(m-k)*c=(m-(k+1))*c+c:=by
   rw[show m-k=m-(k+1)+1 by omega,Nat.add_mul,Nat.one_mul]
  rw[e1,←List.drop_drop,List.take_append_drop]
theorem HasCs.el{s:Sh}{ds:List D}(h:HasCs s ds){us:List Value}(hp:PC w (ZM w) ds us):∃x,Xx s x∧P1 w (ZM w) x us:=by
 cases s with
 |cat l=>exact⟨.agg ds,by simp only[Xx];exact⟨ds,rfl,h⟩,by simpa only[P1] using hp⟩
 |int k=>
  obtain⟨x,rfl,hx⟩:=h
  refine⟨x,hx,?_⟩
  simp only[Xx] at hx
  obtain⟨n,rfl,_⟩:=hx
  simp only[PC,DR] at hp
  obtain⟨u,us',rfl,_,⟨rfl,_⟩,rfl⟩:=hp
  simp only[P1]
 |bool=>
  obtain⟨x,rfl,hx⟩:=h
  refine⟨x,hx,?_⟩
  simp only[Xx] at hx
  obtain⟨n,rfl⟩:=hx
  simp only[PC,DR] at hp
  obtain⟨u,us',rfl,_,⟨rfl,_⟩,rfl⟩:=hp
  simp only[P1]
 |slc z b e=>
  obtain⟨x,rfl,hx⟩:=h
  refine⟨x,hx,?_⟩
  simp only[Xx] at hx
  obtain⟨xs,rfl,_⟩:=hx
  simp only[PC,DR] at hp
  obtain⟨u,us',rfl,h1,⟨_,h2,h3⟩,rfl⟩:=hp
  simp only[P1]
  exact⟨u,rfl,h1,h2,h3⟩
theorem QoU{e:TypeId}:∀(ys:List (DataW H×List MemPlace))(y:DataW H×List MemPlace),y∈ys→∀q∈y.1.weights P e,q∈DataW.weightsAll P e (ys.map (·.1)):=by
 intro ys y hy q hq
 induction ys with
 |nil=>cases hy
 |cons z ys ih=>
  simp only[List.map_cons,DataW.weightsAll,Qd]
  rcases Qh.1 hy with rfl|hy
  ·exact .inl hq
  ·exact .inr (ih hy)
theorem Qdb{spare:Nat→Bool}(hsp:∀b,spare b=true){held:Bool}:∀(n:Nat)(top:Bool)(fuel:Nat)(t:TypeId)(sh:Sh)(cs:List Value)(x:DataW H×List MemPlace),Zv P n top t=some sh→DataW.trod enc P w 0 spare held fuel t cs=some x→
  (∀m∈x.1.weights P t,m≤reachBytes)→∃ds,PC w (ZM w) ds cs∧HasCs sh ds
 |0,_,_,_,_,_,_,h,_,_=>by simp [Zv] at h
 |n+1,top,fuel,t,sh,cs,x,h,ht,hw=>by
  simp only[Zv] at h
  split at h
  ·rename_i k hk
   simp only[Qb] at h
   subst h
   obtain⟨m,rfl,rfl,hwf⟩:=DataW.trod_int hk ht
   simp only[Lit.wf,Qk,Ql] at hwf
   exact⟨[.int k m],by simp only[PC,DR];exact⟨_,_,rfl,rfl,⟨rfl,by trivial⟩,rfl⟩,.int k m,rfl,by simp only[Xx];exact⟨m,rfl,hwf⟩⟩
  ·rename_i hk
   simp only[Qb] at h
   subst h
   obtain⟨m,rfl,rfl⟩:=DataW.trod_bool hk ht
   exact⟨[.bool m],by simp only[PC,DR];exact⟨_,_,rfl,rfl,⟨rfl,by trivial⟩,rfl⟩,.bool m,rfl,by simp only[Xx];exact⟨m,rfl⟩⟩
  ·rename_i e hk
   split at h
   case isFalse=>cases h
   rename_i hc
   obtain⟨hc1,hc2⟩:=hc
   simp only[Qi] at h
   obtain⟨s,hs,rfl⟩:=h
   rcases DataW.trod_slice hk ht with⟨rfl,rfl⟩|⟨a,len,cap,elems,rest,m,rfl,rfl,rfl,_,hlc,hcap,hel,hE,hR,_⟩
   ·refine⟨[.lst (P.cellsOf e) []],?_,_,rfl,?_⟩
    ·simp only[PC,DR]
     exact⟨_,_,rfl,rfl,⟨by trivial,by simp,.inl ⟨⟨_,rfl⟩,by trivial⟩⟩,rfl⟩
    ·simp only[Xx]
     exact⟨[],rfl,by simp,by simp⟩
   ·by_cases hcap0:cap=0
    ·subst hcap0
     obtain rfl:len=0:=by omega
     refine⟨[.lst (P.cellsOf e) []],?_,_,rfl,?_⟩
     ·simp only[PC,DR]
      exact⟨_,_,rfl,rfl,⟨by trivial,by simp,.inl ⟨⟨_,rfl⟩,by trivial⟩⟩,rfl⟩
     ·simp only[Xx]
      exact⟨[],rfl,by simp,by simp⟩
    have hcell:∃u,w.cell? a=some u:=by
     have of:∀{us},w.cells? 0 (a.add (0*P.cellsOf e)) (P.cellsOf e)=some us→∃u,w.cell? a=some u:=fun {us} h=>by
      obtain⟨_,hl,hg⟩:=World.cells?_some h
      have h0:=hg 0 hc1
      have:0<us.length:=by omega
      rw[Qn this] at h0
      exact⟨_,by simpa [Addr.add] using h0⟩
     by_cases hl0:0<len
     ·have he:=hE 0 hl0
      rw[Qn (by omega),QH] at he
      obtain⟨us',hu1,_⟩:=he
      exact of hu1
     ·obtain⟨hr1,hr2⟩:=hR (hsp _)
      have he:=hr2 0 (by omega)
      rw[Qn (by omega),QH] at he
      obtain⟨us',hu1,_⟩:=he
      obtain rfl:len=0:=by omega
      exact of hu1
    obtain⟨hspot,hblk⟩:a.spot=none∧a.block<w.heap.size:=by
     obtain⟨u,hu⟩:=hcell
     unfold World.cell? at hu
     split at hu
     ·rename_i hg
      split at hu
      ·cases hu
      ·rename_i hs
       exact⟨by simpa using hs,(QB.1 hg).1⟩
     ·cases hu
    obtain⟨b,off,spot⟩:=a
    simp only at hspot hblk
    subst hspot
    have hwt:=hw ((elems.length+rest.length)*P.bytesOf e) (by simp [DataW.weights,hk])
    have hwe:∀y∈elems,∀q∈y.1.weights P e,q≤reachBytes:=fun y hy q hq=>hw q (by
     simp only[DataW.weights,hk,Qh,Qd]
     exact .inr (.inl (QoU _ _ hy q hq)))
    have hlenb:len*P.bytesOf e≤reachBytes:=by
     refine Qt (Nat.mul_le_mul_right _ ?_) hwt
     omega
    have hmax:len≤QS:=by
     have:len≤len*P.bytesOf e:=Nat.le_mul_of_pos_right _ hc2
     unfold reachBytes at hlenb
     unfold QS
     omega
    have key:∀k,k≤len→∃xs us,xs.length=k∧us.length=k*P.cellsOf e∧Mem w b off us∧PE w (ZM w) (P.cellsOf e) xs us∧∀y∈xs,Xx s y:=by
     intro k
     induction k with
     |zero=>intro _;exact⟨[],[],rfl,by simp,Mem.nil,by simp [PE],by simp⟩
     |succ k ih=>
      intro hk'
      obtain⟨xs,us,h1,h2,h3,h4,h5⟩:=ih (by omega)
      have hk2:k<elems.length:=by omega
      have he:=hE k (by omega)
      rw[Qn hk2,QH] at he
      obtain⟨us',hu1,hu2⟩:=he
      obtain⟨_,hul,hug⟩:=World.cells?_some hu1
      obtain⟨ds,p1,g1⟩:=Qdb hsp n false m e s us' _ hs hu2 (hwe _ (List.getElem_mem _))
      obtain⟨y,hy1,hy2⟩:=HasCs.el g1 p1
      refine⟨xs++[y],us++us',by simp [h1],by rw[Qj,h2,hul,Nat.add_mul,Nat.one_mul],Mem.append.2 ⟨h3,?_⟩,PE.append.2 ⟨us,us',rfl,h4,?_⟩,?_⟩
      ·intro j u hj
       have hj':j<P.cellsOf e:=by rw[←hul];exact (Qp.1 hj).1
       have:=hug j hj'
       rw[hj,Zt,Zt] at this
       rw[h2]
       exact this
      ·simp only[PE]
       exact⟨us',[],by simp,hul,hy2,rfl⟩
      ·intro z hz
       rcases Qd.1 hz with hz|hz
       ·exact h5 z hz
       ·simp only[Qm] at hz
        subst hz
        exact hy1
    obtain⟨xs,us,h1,h2,h3,h4,h5⟩:=key len (Qg _)
    refine⟨[.lst (P.cellsOf e) xs],?_,_,rfl,?_⟩
    ·simp only[PC,DR]
     exact⟨_,_,rfl,rfl,⟨by trivial,by omega,.inr ⟨b,off,cap,us,by rw[h1],by omega,hcap,hblk,h3,h4⟩⟩,rfl⟩
    ·simp only[Xx]
     exact⟨xs,rfl,by rw[h1];exact hlenb,h5⟩
  ·rename_i fs hk
   simp only[Qi] at h
   obtain⟨l,hl,rfl⟩:=h
   obtain⟨xs,m,rfl,rfl,hcl,hxl,hx⟩:=DataW.trod_struct hk ht
   obtain⟨ds,p,g⟩:=QiJ hcl (fun t sh cs' x h1 h2 h3=>Qdb hsp n top m t sh cs' x h1 h2 h3) fs.toList 0 xs l hl (by simpa using hxl) (fun i f hi=>hx i f (by simpa using hi)) (fun q hq=>hw q (by simp only[DataW.weights,hk];exact hq))
   exact⟨ds,by simpa using p,g⟩
  ·rename_i m e hk
   split at h
   case isFalse=>cases h
   rename_i hcm
   simp only[Qi] at h
   obtain⟨s,hs,rfl⟩:=h
   cases fuel with
   |zero=>simp [DataW.trod] at ht
   |succ q=>
    unfold DataW.trod at ht
    rw[hk] at ht
    simp only at ht
    split at ht
    case isFalse=>cases ht
    rename_i hcl
    simp only[Qi] at ht
    obtain⟨xs,hxs,rfl⟩:=ht
    have hl:xs.length=m:=by simpa using mapM_some_length hxs
    obtain⟨ds,p,g⟩:=QiK (m:=m) (c:=P.cellsOf e) (by rw[hcl,hcm]) (fun cs' x h2 h3=>Qdb hsp n top q e s cs' x hs h2 h3) hl (fun i hi=>mapM_some_get hxs i i (by simp [hi])) (fun q hq=>hw q (by simp only[DataW.weights,hk];exact hq)) m (Qg _)
    exact⟨ds,by simpa using p,g⟩
  ·cases h
theorem QiL{r:Reach}{base:Nat}{t:TypeId}{v:Value}(h:Cell.okWide P w r base t v):Qfo w v:=by
 intro a len cap hv
 subst hv
 have ok:∀t,Cell.ok P w r base t (.slice (some a) len cap)→a.spot=none∧a.block<w.heap.size:=by
  intro t h
  have key:∀(a:Addr)(e:TypeId)(m:Nat),w.has P r base a e m→a.spot=none∧a.block<w.heap.size:=by
   rintro a e m ⟨_,h1,row,cells,h2,_⟩
   refine⟨h1,?_⟩
   unfold World.shape? at h2
   rcases Nat.lt_or_ge a.block w.heap.size with hlt|hge
   ·exact hlt
   ·rw[Array.getElem?_eq_none hge] at h2;cases h2
  unfold Cell.ok at h
  split at h
  all_goals first
   |(rename_i hv;cases hv;exact key _ _ _ h.2.2)
   |(rename_i hv _;cases hv;exact key _ _ _ h.2.2)
   |(rename_i _ hv;cases hv;exact key _ _ _ h.2.2)
   |(rename_i hv;cases hv)
   |exact h.elim
 unfold Cell.okWide at h
 split at h
 all_goals first
  |exact ok _ h
  |simp_all
theorem QoV{base:Nat}{t:TypeId}{v:Value}(h:Value.okWide P w .any base t v):(∀u∈v.cells.toList,Qfo w u)∧((∃sh,∃n top l,Zv P (n+1) top t=some sh∧sh=.cat l)→∃cs,v=.agg cs):=by
 unfold Value.okWide at h
 have agg:∀cs:Array Value,Row.okWide P w .any base t cs→∀u∈cs.toList,Qfo w u:=by
  rintro cs ⟨ts,_,_,hc⟩ u hu
  obtain⟨i,hi⟩:=List.getElem?_of_mem hu
  obtain⟨t',_,h'⟩:=hc i u (by simpa using hi)
  exact QiL h'
 split at h
 ·obtain⟨cs,rfl,_,h⟩:=h
  exact⟨agg cs h,fun _=>⟨cs,rfl⟩⟩
 ·obtain⟨cs,rfl,_,h⟩:=h
  exact⟨agg cs h,fun _=>⟨cs,rfl⟩⟩
 ·rename_i h1 h2
  have hc:∀cs,v≠.agg cs:=by
   intro cs hv
   subst hv
   unfold Cell.okWide at h
   split at h<;>simp_all [Cell.ok]
  refine⟨fun u hu=>?_,?_⟩
  ·have:v.cells=#[v]:=by cases v<;>first|rfl|exact absurd rfl (hc _)
   rw[this] at hu
   simp only[Qm] at hu
   subst hu
   exact QiL h
  ·rintro⟨sh,n,top,l,hs,rfl⟩
   simp only[Zv] at hs
   split at hs<;>simp at hs
   ·rename_i fs hk;exact absurd hk (h1 _)
   ·rename_i m e hk;exact absurd hk (h2 _ _)
theorem QoW{spare:Nat→Bool}(hsp:∀b,spare b=true){held:Bool}{base n:Nat}{t:TypeId}{sh:Sh}{v:Value}{d:DataW H}{ps:List MemPlace}(hs:Zv P (n+1) true t=some sh)
  (ht:DataW.Trod enc P w 0 spare held t v d ps) (hw:∀m∈d.weights P t,m≤reachBytes) (hv:Value.okWide P w .any base t v):∃x,Xx sh x∧DR w (ZM w) x v []:=by
 obtain⟨fuel,ht⟩:=ht
 obtain⟨hfine,hagg⟩:=QoV hv
 obtain⟨ds,hp,hc⟩:=Qdb hsp (n+1) true fuel t sh _ _ hs ht hw
 have single:(∀l,sh≠.cat l)→∃x,Xx sh x∧DR w (ZM w) x v []:=by
  intro hne
  have hna:∀cs,v≠.agg cs:=by
   intro cs hcs
   subst hcs
   simp only[Zv] at hs
   unfold Value.okWide at hv
   split at hs
   ·rename_i k hk;rw[hk] at hv;simp [Cell.okWide,Cell.ok,hk] at hv
   ·rename_i hk;rw[hk] at hv;simp [Cell.okWide,Cell.ok,hk] at hv
   ·rename_i e hk;rw[hk] at hv;simp [Cell.okWide,Cell.ok,hk] at hv
   ·simp only[Qi] at hs;obtain⟨l,_,rfl⟩:=hs;exact hne _ rfl
   ·split at hs
    ·simp only[Qi] at hs;obtain⟨l,_,rfl⟩:=hs;exact hne _ rfl
    ·cases hs
   ·cases hs
  have hv1:v.cells=#[v]:=by cases v<;>first|rfl|exact absurd rfl (hna _)
  rw[hv1] at hp
  have:∃x,ds=[x]∧Xx sh x:=by
   cases sh with
   |cat l=>exact absurd rfl (hne l)
   |int=>exact hc
   |bool=>exact hc
   |slc=>exact hc
  obtain⟨x,rfl,hx⟩:=this
  simp only[PC] at hp
  obtain⟨u,us',h1,_,h3,_⟩:=hp
  simp only[List.cons.injEq] at h1
  obtain⟨rfl,_⟩:=h1
  exact⟨x,hx,h3⟩
 cases hsh:sh with
 |cat l=>
  subst hsh
  obtain⟨cs,rfl⟩:=hagg ⟨_,n,true,l,hs,rfl⟩
  refine⟨.agg ds,by simp only[Xx];exact⟨ds,rfl,hc⟩,?_⟩
  simp only[DR]
  exact⟨cs,rfl,hp.one,hp.to_DRs⟩
 |int=>exact hsh▸single (by rw[hsh];simp)
 |bool=>exact hsh▸single (by rw[hsh];simp)
 |slc=>exact hsh▸single (by rw[hsh];simp)
theorem QiM{spare:Nat→Bool}(hsp:∀b,spare b=true){held:Bool}{base n:Nat}:∀(ts:List TypeId)(shs:List Sh)(vs:List Value)(ds:List (DataW H))(ps:List MemPlace),QU (Zv P (n+1) true) ts=some shs→
  DataW.TrodAll enc P w 0 spare held ts vs ds ps→(∀m∈DataW.weightsEach P ts ds,m≤reachBytes)→(∀(j:Nat)(t:TypeId)(v:Value),ts[j]?=some t→vs[j]?=some v→Value.okWide P w .any base t v)→
  ∃xs,QaE shs xs∧DRs w (ZM w) xs vs []
 |[],shs,vs,ds,ps,hs,ht,_,_=>by
  simp only[QU,Qb] at hs
  subst hs
  obtain⟨rfl,_,_⟩:=trodAll_nil ht
  exact⟨[],by simp [QaE],by simp [DRs]⟩
 |t::ts,shs,vs,ds,ps,hs,ht,hw,hv=>by
  simp only[QU] at hs
  split at hs
  case h_2=>cases hs
  rename_i s l h1 h2
  simp only[Qb] at hs
  subst hs
  match vs,ds,ht with
  |v::vs,d::ds,ht=>
   obtain⟨p,q,g1,g2,rfl⟩:=ht
   obtain⟨x,a1,b1⟩:=QoW hsp h1 g1 (fun m hm=>hw m (by simp only[DataW.weightsEach,Qd];exact .inl hm)) (hv 0 t v rfl rfl)
   obtain⟨xs,a2,b2⟩:=QiM hsp ts l vs ds q h2 g2 (fun m hm=>hw m (by simp only[DataW.weightsEach,Qd];exact .inr hm)) (fun j t v hj hv'=>hv (j+1) t v (by simpa using hj) (by simpa using hv'))
   refine⟨x::xs,by simp only[QaE];exact⟨x,xs,rfl,a1,a2⟩,?_⟩
   simp only[DRs]
   exact⟨v,vs,[],[],rfl,rfl,b1,b2⟩
theorem QiN(hl:laidOutB P=true){W W':World}(hb:Below W.heap.size W W'):∀(ts:List TypeId)(vs:List Value)(ds:List (DataW H))(ps:List MemPlace),(ts.all fun t=>P.readableRec t&&decide (t<P.types.size))=true→
  DataW.TrodAll enc P W 0 (fun _=>true) true ts vs ds ps→(∀x∈ps,x.block<W.heap.size)→DataW.TrodAll enc P W' 0 (fun b=>decide (b<W.heap.size)) true ts vs ds ps
 |[],vs,ds,ps,_,ht,_=>by
  obtain⟨rfl,rfl,rfl⟩:=trodAll_nil ht
  rfl
 |t::ts,[],ds,ps,_,ht,_=>by cases ds<;>simp [DataW.TrodAll] at ht
 |t::ts,v::vs,[],ps,_,ht,_=>by simp [DataW.TrodAll] at ht
 |t::ts,v::vs,d::ds,ps,hr,ht,hlt=>by
  simp only[List.all_cons,Qk,Ql] at hr
  obtain⟨p,q,g1,g2,rfl⟩:=ht
  exact⟨p,q,Below.trod hl hr.1.1 hr.1.2 g1 hb (fun x hx=>hlt x (List.mem_append_left _ hx)),QiN hl hb ts vs ds q hr.2 g2 (fun x hx=>hlt x (List.mem_append_right _ hx)),rfl⟩
theorem QiO{b:Nat}{sp:Nat→Bool}{hd:Bool}:∀{ts:List TypeId}{vs:List Value}{ds:List (DataW H)}{ps:List MemPlace},DataW.TrodAll enc P w b sp hd ts vs ds ps→ds.length=ts.length
 |[],vs,ds,ps,h=>by obtain⟨_,rfl,_⟩:=trodAll_nil h;rfl
 |t::ts,[],ds,ps,h=>by cases ds<;>simp [DataW.TrodAll] at h
 |t::ts,v::vs,[],ps,h=>by simp [DataW.TrodAll] at h
 |t::ts,v::vs,d::ds,ps,h=>by
  obtain⟨p,q,_,g2,_⟩:=h
  simp [QiO g2]
theorem QoX{f:Nat}{fn:Func}{s:ChangeSpec}{shs:List Sh}{tb:TypeId}{fresh handsOn:Bool}(hsh:QU (Zv P 9 true) fn.params.toList=some shs)(hFC:∀args,QaE shs args→FC P f args (.bool true) [])
  (hrt:fn.resultTypes.toList=[tb]) (htb:P.underlying tb=some .bool) (hl:laidOutB P=true) (hr:(fn.params.toList.all fun t=>P.readableRec t&&decide (t<P.types.size))=true)
  (hvars:s.vars=[]) (hspec:∀ds:List (DataW H),ds.length=fn.params.toList.length→s.fn H ds=⟨[.lit (.bool true)],ds,[]⟩)
  {W:World} {base:Nat} {args:Array Value} {ds gs:List (DataW H)} {before:List MemPlace}
  (hval:∀(j:Nat) t v,fn.params[j]?=some t→args[j]?=some v→Value.okWide P W .any base t v) (hW:DataW.Whole enc P fn.params.toList s.vars false W args.toList ds gs before)
  (hsz:(DataW.weightsEach P (fn.params.toList++s.plain.varTypes P) (ds++gs)).all (·≤reachBytes)=true):
  Calls P f args W fun e W'=>∃v,e=.returned v∧s.post enc P fn false fresh handsOn false W args v W':=by
 have hW':=hW
 obtain⟨p,q,hA,hV,rfl,hz1,hz2⟩:=hW
 have hgs:gs=[]∧q=[]:=by
  rw[hvars] at hV
  cases gs with
  |nil=>exact⟨rfl,hV⟩
  |cons g gs=>simp [DataW.TrodVars] at hV
 obtain⟨rfl,rfl⟩:=hgs
 have hplen:=QiO hA
 have hwt:∀m∈DataW.weightsEach P fn.params.toList ds,m≤reachBytes:=by
  intro m hm
  have key:∀(ts us:List TypeId)(ds:List (DataW H)),ds.length=ts.length→∀m∈DataW.weightsEach P ts ds,m∈DataW.weightsEach P (ts++us) ds:=by
   intro ts
   induction ts with
   |nil=>intro us ds hl m hm;cases ds<;>simp [DataW.weightsEach] at hm
   |cons t ts ih=>
    intro us ds hl m hm
    cases ds with
    |nil=>simp [DataW.weightsEach] at hm
    |cons d ds=>
     simp only[List.cons_append,DataW.weightsEach,Qd] at hm ⊢
     exact hm.imp id (ih us ds (by simpa using hl) m)
  have:=Qs.1 hsz m (by rw[List.append_nil];exact key _ _ _ hplen m hm)
  simpa using this
 obtain⟨xs,hx,hdr⟩:=QiM (n:=8) (base:=base) (fun _=>rfl) fn.params.toList shs args.toList ds p hsh hA hwt (fun j t v hj hv=>hval j t v (by simpa using hj) (by simpa using hv))
 have hcall:=(hFC xs hx).2 W (ZM W) args.toList [] (fun b hb=>⟨hb,by simp⟩) (by simp) (by simp) hdr
 rw[Array.toArray_toList] at hcall
 refine hcall.mono ?_
 rintro e W' ⟨v,os',rfl,hst,_,_,hres⟩
 simp only[List.map_nil,DRs] at hres
 obtain⟨v0,vs0,o,o',hveq,rfl,hdb,hvs0,ho0⟩:=hres
 subst hvs0 ho0
 simp only[List.cons.injEq,and_true] at hveq
 subst hveq
 simp only[DR] at hdb
 obtain⟨rfl,rfl⟩:=hdb
 have hb:Below W.heap.size W W':=⟨hst.os,hst.tape,hst.output,hst.size,fun k hk=>hst.block k hk (by simp)⟩
 have hlt:∀x∈p,x.block<W.heap.size:=fun x hx=>by simpa using hW'.lt x (by simpa using hx)
 refine⟨_,rfl,ds,[],p++[],[],p,[],hW',?_,?_,?_,hb.frame _,fun h=>by cases h⟩
 ·rw[List.append_nil,hspec ds hplen,hrt]
  have:(Value.bool true).resultList fn.resultTypes.size=[.bool true]:=by
   have:fn.resultTypes.size=1:=by rw[←Array.length_toList,hrt];rfl
   rw[this];rfl
  rw[this]
  exact trodAll_mk1 ⟨1,by simp [DataW.trod,Value.cells,htb]⟩
 ·rw[List.append_nil,hspec ds hplen]
  exact QiN hl hb _ _ _ _ hr hA hlt
 ·rw[List.append_nil,hspec ds hplen,hvars]
  exact rfl
end
end Go.Am
namespace Go.Am
open Go
def QoY(l:List Nat)(x:Nat):List Nat:=if l.contains x then l else x::l
def JA(a b:List Nat):List Nat:=b.foldl QoY a
def QiP(x:Nat):List Nat→List Nat
 |[]=>[x]
 |y::l=>if x≤y then x::y::l else y::QiP x l
def QiQ(l:List Nat):List Nat:=l.foldr QiP []
def opT:Operand→List Nat
 | .tmp t=>[t]
 |_=>[]
def QoZ(ops:Array Oper)(o:Oper):List Nat:=o.op.operands.toList.flatMap opT++(match o.guard with
 |some (j,_)=>((ops[j]?).bind (·.dst)).toList
 |none=>[])
def Qfp(ops:Array Oper):List Oper→List Nat→List Nat
 |[],out=>out
 |o::l,out=>JA (match o.dst with
  |some t=>(Qfp ops l out).filter (·!=t)
  |none=>Qfp ops l out) (QoZ ops o)
def lvI(res:List Nat):Code→List (Nat×List Nat)→List Nat→List Nat
 | .ret,_,_=>res
 | .exit id,ex,_=>(lk ex id).getD []
 | .seq a b,ex,out=>lvI res a ex (lvI res b ex out)
 | .region _ ops _,_,out=>Qfp ops ops.toList out
 | .cond c a b,ex,out=>JA (JA (lvI res a ex out) (lvI res b ex out)) (opT c)
 | .block id a,ex,out=>lvI res a ((id,out)::ex) out
 | .loop a,ex,_=>lvI res a ex []
 |_,_,out=>out
def lvT(res:List Nat):Code→List (Nat×List Nat)→List Nat→List (Bool×Nat×List Nat)
 | .seq a b,ex,out=>lvT res a ex (lvI res b ex out)++lvT res b ex out
 | .region id _ _,_,out=>[(false,id,QiQ out)]
 | .cond _ a b,ex,out=>lvT res a ex out++lvT res b ex out
 | .block id a,ex,out=>lvT res a ((id,out)::ex) out
 | .loop a,ex,_=>(true,Qa8 a,QiQ (lvI res a ex []))::lvT res a ex (lvI res a ex [])
 |_,_,_=>[]
def lkT(b:Bool)(n:Nat):List (Bool×Nat×List Nat)→List Nat
 |[]=>[]
 |x::l=>if x.1==b&&x.2.1==n then x.2.2 else lkT b n l
def Qbl:ResultVar→Nat
 | .tmp t=>t
 | .cell t _=>t
section
variable (P:Program) (md:Nat→Nat→List Md)
def cdC(f:Nat)(fn:Func)(c:Code)(res:List Nat)(t:List (Bool×Nat×List Nat)):Option LC:=
 cC P ⟨XW 0 (md f f),md f,fun n=>lkT false n t,fun n=>lkT true n t⟩ fn.ntmps c
def cdF(f:Nat)(fn:Func)(c:Code):Option LC:=
 cdC P md f fn c (JA (fn.results.toList.map Qbl) (XW 0 (md f f))) (lvT (JA (fn.results.toList.map Qbl) (XW 0 (md f f))) c [] (JA (fn.results.toList.map Qbl) (XW 0 (md f f))))
def cdO(f:Nat)(fn:Func):Option LC:=fn.body.bind (cdF P md f fn)
def cd(f:Nat):LC:=((P.funcs[f]?).bind (cdO P md f)).getD .skip
def rsF(f:Nat):List RV:=((P.funcs[f]?).bind fun fn=>Jf P fn.results.toList).getD []
def muF(f:Nat):List Nat:=XW 0 (md f f)
def okF(f n:Nat):Bool:=match P.funcs[f]? with
 |some fn=>(fn.name != "runtime.NumGoroutine")&&decide (n≤fn.ntmps)&&(XW 0 (md f f)).all (fun i=>decide (i<n))&&(cdO P md f fn).isSome&&(Jf P fn.results.toList).isSome
 |none=>false
end
section
variable {P:Program} {md:Nat→Nat→List Md} {f n:Nat}
theorem Qfq(h:okF P md f n=true):∃(fn:Func) (body:Code) (t:List (Bool×Nat×List Nat)),P.funcs[f]?=some fn∧fn.name≠ "runtime.NumGoroutine" ∧n≤fn.ntmps∧(∀i∈muF md f,i<n)∧fn.body=some body∧
  cC P ⟨muF md f,md f,fun n=>lkT false n t,fun n=>lkT true n t⟩ fn.ntmps body=some (cd P md f)∧Jf P fn.results.toList=some (rsF P f):=by
 unfold okF at h
 cases hf:P.funcs[f]? with
 |none=>rw[hf] at h;cases h
 |some fn=>
  rw[hf] at h
  simp only[Qk,bne_iff_ne,ne_eq,Ql,Qs] at h
  obtain⟨⟨⟨⟨h1,h2⟩,h3⟩,h4⟩,h5⟩:=h
  obtain⟨lc,e4⟩:=Option.isSome_iff_exists.1 h4
  obtain⟨rs,e5⟩:=Option.isSome_iff_exists.1 h5
  obtain⟨body,e6,e7⟩:=QH.1 e4
  have e8:cd P md f=lc:=by
   unfold cd
   rw[hf]
   simp only[Option.bind_some,e4,Option.getD_some]
  unfold cdF cdC at e7
  refine⟨fn,body,_,rfl,h1,h2,h3,e6,by rw[e8];exact e7,?_⟩
  unfold rsF
  rw[hf]
  simp only[Option.bind_some,e5,Option.getD_some]
variable {args:List D} {r:D} {os':qSl}
theorem fcO(hm:P.follows .mixedOrders=true)(h:okF P md f args.length=true)(hok:args.all XK=true)(hW:W P (cd P md f) (Done (rsF P f) (muF md f) r os') (init args)):FC P f args r os':=by
 obtain⟨fn,body,t,h1,h2,h3,h4,h5,h6,h7⟩:=Qfq h
 exact FC.of h1 (by simpa using h2) h5 hm rfl h6 h7 h3 h4 hok (Jb _ (fun _ _ h=>h.any) hW)
theorem fcF(hm:P.follows .mixedOrders=true)(h:okF P md f args.length=true)(hok:args.all XK=true)(hW:W P (cd P md f) (DoneF (rsF P f) (muF md f) r os') (init args)):FC P f args r os':=by
 obtain⟨fn,body,t,h1,h2,h3,h4,h5,h6,h7⟩:=Qfq h
 exact FC.of h1 (by simpa using h2) h5 hm rfl h6 h7 h3 h4 hok (Jb _ (fun _ _ h=>h.any) hW)
theorem fcZ(hm:P.follows .mixedOrders=true)(h:okF P md f args.length=true)(hok:args.all XK=true)(hW:W P (cd P md f) (DoneZ (rsF P f) (muF md f) r os') (init args)):FC P f args r os':=by
 obtain⟨fn,body,t,h1,h2,h3,h4,h5,h6,h7⟩:=Qfq h
 exact FC.of h1 (by simpa using h2) h5 hm rfl h6 h7 h3 h4 hok (Jb _ (fun _ _ h=>h.any) hW)
end
section
variable (P:Program) (ai:TypeId→Option Nat)
def Qfr(op:BinOp)(t:TypeId)(x y:Operand):Option LOp:=match P.underlying t,cX x,cX y with
 |some (.struct _),some x,some y=>match ai t,op with
  |some m,.eql=>some (.eqA m false x y)
  |some m,.neq=>some (.eqA m true x y)
  |_,_=>none
 |_,_,_=>ZI P op t x y
def Qb0(t:TypeId):Option Nat:=match P.underlying t with
 |some (.struct fs)=>if ai t=Zm (JU P) fs.toList 0 then Zm (JU P) fs.toList 0 else none
 |_=>none
def Qdc(md:Nat→List Md)(o:Oper):Option LOp:=match o.op with
 | .binOp op t x y _=>Qfr P ai op t x y
 | .makeMap t none=>match P.underlying t with
  |some (.map k _)=>(Qb0 P ai k).map .mkM
  |_=>none
 | .lookup t x k true=>match P.underlying t,cX x,cX k with
  |some (.map kt e),some x,some k=>match Qb0 P ai kt,(P.info? e).bind (·.zero) with
   |some m,some (.int .i64 0)=>some (.lkM m x k)
   |_,_=>none
  |_,_,_=>none
 | .mapUpdate t x k v=>match P.underlying t,cX x,cX k,cX v with
  |some (.map kt _),some x,some k,some v=>(Qb0 P ai kt).map fun m=>.upM m x k v
  |_,_,_,_=>none
 | .range t x=>match P.underlying t,cX x with
  |some (.map kt _),some x=>(Qb0 P ai kt).map fun m=>.rgM m x
  |_,_=>none
 |_=>cOp P md o
def cIA(H:Hints)(N:Nat)(ops:Array Oper)(o:Oper):Option LI:=
 match QcI ops o.guard with
 |some g=>match o.dst with
  |some t=>if t<N∧t∉H.fx then some {dst:=some t,op:=(Qdc P ai H.md o).getD .bad,guard:=g} else none
  |none=>some {dst:=none,op:=(Qdc P ai H.md o).getD .bad,guard:=g}
 |_=>none
theorem Qo0(h:ai=Ze P)(op:BinOp)(t:TypeId)(x y:Operand):Qfr P ai op t x y=ZI P op t x y:=by
 subst h
 unfold Qfr
 split
 ·rename_i h1 h2 h3
  unfold ZI
  rw[h1,h2,h3]
  rfl
 ·rfl
theorem Qo1(h:ai=Ze P)(t:TypeId):Qb0 P ai t=YV P t:=by subst h;rfl
theorem Qo2(h:ai=Ze P)(md:Nat→List Md)(o:Oper):Qdc P ai md o=cOp P md o:=by
 unfold Qdc
 split<;>(try simp only[Qo0 P ai h,Qo1 P ai h])<;>first|rfl|(rename_i h1;unfold cOp;rw[h1];try rfl)
theorem QiR(h:ai=Ze P)(H:Hints)(N:Nat)(ops:Array Oper):cIA P ai H N ops=cI P H N ops:=by
 funext o
 unfold cIA cI
 rw[Qo2 P ai h]
 rfl
end
def cE(P:Program)(ai:TypeId→Option Nat)(H:Hints)(N:Nat):Code→Option LC
 | .skip=>some .skip
 | .ret=>some .ret
 | .exit id=>some (.exit id)
 | .seq a b=>match cE P ai H N a,cE P ai H N b with
  |some a,some b=>some (.seq a b)
  |_,_=>none
 | .region id ops draw=>match QU (cIA P ai H N ops) ops.toList with
  |some l=>if draw then some (.dreg [] l (H.reg id)) else some (.reg l (H.reg id))
  |none=>none
 | .cond c a b=>match cX c,cE P ai H N a,cE P ai H N b with
  |some c,some a,some b=>some (.cond c a b)
  |_,_,_=>none
 | .block id a=>(cE P ai H N a).map (.block id)
 | .loop a=>(cE P ai H N a).map (.loop (H.keep (Qa8 a)))
 |_=>none
abbrev CsL:=List (Nat×Option Nat×List Nat×Bool)
def LC.css:LC→List CsL
 | .seq a b=>a.css++b.css
 | .dreg c _ _=>[c]
 | .cond _ a b=>a.css++b.css
 | .block _ a=>a.css
 | .loop _ a=>a.css
 |_=>[]
def LC.put(g:Nat→CsL):LC→Nat→LC×Nat
 | .seq a b,n=>(.seq (a.put g n).1 (b.put g (a.put g n).2).1,(b.put g (a.put g n).2).2)
 | .dreg _ l k,n=>(.dreg (g n) l k,n+1)
 | .cond c a b,n=>(.cond c (a.put g n).1 (b.put g (a.put g n).2).1,(b.put g (a.put g n).2).2)
 | .block i a,n=>(.block i (a.put g n).1,(a.put g n).2)
 | .loop k a,n=>(.loop k (a.put g n).1,(a.put g n).2)
 |c,n=>(c,n)
def LC.nod:LC→Nat
 | .seq a b=>a.nod+b.nod
 | .dreg ..=>1
 | .cond _ a b=>a.nod+b.nod
 | .block _ a=>a.nod
 | .loop _ a=>a.nod
 |_=>0
theorem J6:∀c:LC,c.css.length=c.nod
 | .seq a b=>by simp [LC.css,LC.nod,J6 a,J6 b]
 | .cond _ a b=>by simp [LC.css,LC.nod,J6 a,J6 b]
 | .block _ a=>by simp [LC.css,LC.nod,J6 a]
 | .loop _ a=>by simp [LC.css,LC.nod,J6 a]
 | .dreg ..| .reg ..| .skip| .ret| .exit _=>rfl
theorem J7(g:Nat→CsL):∀(c:LC)(n:Nat),(c.put g n).2=n+c.nod
 | .seq a b,n=>by simp only[LC.put,LC.nod];rw[J7 g b,J7 g a];omega
 | .cond _ a b,n=>by simp only[LC.put,LC.nod];rw[J7 g b,J7 g a];omega
 | .block _ a,n=>by simp only[LC.put,LC.nod];exact J7 g a n
 | .loop _ a,n=>by simp only[LC.put,LC.nod];exact J7 g a n
 | .dreg ..,_| .reg ..,_| .skip,_| .ret,_| .exit _,_=>rfl
theorem Qo3{P:Program}{ai:TypeId→Option Nat}(ha:ai=Ze P){H:Hints}{N:Nat}{g:Nat→CsL}:∀(c:Code)(lc:LC)(n:Nat),cC P H N c=some lc→(∀k,k<lc.css.length→g (n+k)=(lc.css[k]?).getD [])→
  ∃e,cE P ai H N c=some e∧(e.put g n).1=lc∧e.nod=lc.nod:=by
 intro c
 induction c with
 |skip=>intro lc n h _;simp only[cC,Qb] at h;subst h;exact⟨_,rfl,rfl,rfl⟩
 |ret=>intro lc n h _;simp only[cC,Qb] at h;subst h;exact⟨_,rfl,rfl,rfl⟩
 |exit id=>intro lc n h _;simp only[cC,Qb] at h;subst h;exact⟨_,rfl,rfl,rfl⟩
 |seq a b iha ihb=>
  intro lc n h hg
  simp only[cC] at h
  split at h
  ·rename_i x y hx hy
   cases h
   simp only[LC.css,Qj] at hg
   obtain⟨e1,h1,h2,h3⟩:=iha x n hx fun k hk=>by rw[hg k (by omega),Qz hk]
   obtain⟨e2,k1,k2,k3⟩:=ihb y (n+x.nod) hy fun k hk=>by
    have:=hg (x.css.length+k) (by omega)
    rw[QE (by omega),J6 x] at this
    rw[QA,this];congr 2;omega
   refine⟨.seq e1 e2,by simp only[cE,h1,k1],?_,by simp only[LC.nod,h3,k3]⟩
   simp only[LC.put]
   rw[J7,h2,h3,k2]
  ·cases h
 |cond c a b iha ihb=>
  intro lc n h hg
  simp only[cC] at h
  split at h
  ·rename_i x0 x y hx0 hx hy
   cases h
   simp only[LC.css,Qj] at hg
   obtain⟨e1,h1,h2,h3⟩:=iha x n hx fun k hk=>by rw[hg k (by omega),Qz hk]
   obtain⟨e2,k1,k2,k3⟩:=ihb y (n+x.nod) hy fun k hk=>by
    have:=hg (x.css.length+k) (by omega)
    rw[QE (by omega),J6 x] at this
    rw[QA,this];congr 2;omega
   refine⟨.cond x0 e1 e2,by simp only[cE,h1,k1,hx0],?_,by simp only[LC.nod,h3,k3]⟩
   simp only[LC.put]
   rw[J7,h2,h3,k2]
  ·cases h
 |block id a iha=>
  intro lc n h hg
  simp only[cC,Qi] at h
  obtain⟨x,hx,rfl⟩:=h
  obtain⟨e1,h1,h2,h3⟩:=iha x n hx hg
  exact⟨.block id e1,by simp only[cE,h1,Option.map_some],by simp only[LC.put,h2],by simp only[LC.nod,h3]⟩
 |loop a iha=>
  intro lc n h hg
  simp only[cC,Qi] at h
  obtain⟨x,hx,rfl⟩:=h
  obtain⟨e1,h1,h2,h3⟩:=iha x n hx hg
  exact⟨.loop (H.keep (Qa8 a)) e1,by simp only[cE,h1,Option.map_some],by simp only[LC.put,h2],by simp only[LC.nod,h3]⟩
 |region id ops draw=>
  intro lc n h hg
  simp only[cC] at h
  split at h
  ·rename_i l hl
   cases draw
   ·simp only[Bool.false_eq_true,if_false,Qb] at h
    subst h
    exact⟨.reg l (H.reg id),by simp only[cE,QiR P ai ha,hl,Bool.false_eq_true,if_false],rfl,rfl⟩
   ·simp only[if_true,Qi] at h
    obtain⟨c,hc,rfl⟩:=h
    refine⟨.dreg [] l (H.reg id),by simp only[cE,QiR P ai ha,hl,if_true],?_,rfl⟩
    have:=hg 0 (by simp [LC.css])
    simp only[LC.css,Nat.add_zero] at this
    simp only[LC.put,this]
    rfl
  ·cases h
 |_=>intro lc n h _;simp only[cC] at h;cases h
section
variable (P:Program) (md:Nat→Nat→List Md)
variable (ai:TypeId→Option Nat)
def cfE(f:Nat)(fn:Func)(c:Code)(res:List Nat)(t:List (Bool×Nat×List Nat)):Option LC:=
 cE P ai ⟨XW 0 (md f f),md f,fun n=>lkT false n t,fun n=>lkT true n t⟩ fn.ntmps c
def cdE(L:List CsL)(f:Nat):LC:=(((P.funcs[f]?).bind fun fn=>fn.body.bind fun c=>
 cfE P md ai f fn c (JA (fn.results.toList.map Qbl) (XW 0 (md f f))) (lvT (JA (fn.results.toList.map Qbl) (XW 0 (md f f))) c [] (JA (fn.results.toList.map Qbl) (XW 0 (md f f))))).getD .skip).put (fun k=>(L[k]?).getD []) 0|>.1
end
def okG(P:Program)(md:Nat→Nat→List Md)(L:List CsL)(f n:Nat):Bool:=okF P md f n&&decide ((cd P md f).css=L)
theorem Qbm{P:Program}{md:Nat→Nat→List Md}{ai:TypeId→Option Nat}(ha:ai=Ze P){f n:Nat}{L:List CsL}(h0:okG P md L f n=true):okF P md f n=true∧cdE P md ai L f=cd P md f:=by
 unfold okG at h0
 simp only[Qk,Ql] at h0
 obtain⟨h,hL⟩:=h0
 refine⟨h,?_⟩
 unfold okF at h
 cases hf:P.funcs[f]? with
 |none=>rw[hf] at h;cases h
 |some fn=>
  rw[hf] at h
  simp only[Qk] at h
  obtain⟨lc,e4⟩:=Option.isSome_iff_exists.1 h.1.2
  obtain⟨body,e6,e7⟩:=QH.1 e4
  have e8:cd P md f=lc:=by
   unfold cd
   rw[hf]
   simp only[Option.bind_some,e4,Option.getD_some]
  unfold cdF cdC at e7
  obtain⟨e,h1,h2,_⟩:=Qo3 (g:=fun k=>(L[k]?).getD []) ha body lc 0 e7 fun k _=>by rw[←hL,e8,Nat.zero_add]
  unfold cdE cfE
  rw[hf]
  simp only[Option.bind_some,e6,h1,Option.getD_some,e8,h2]
def fnC(P:Program)(md:Nat→Nat→List Md)(ai:TypeId→Option Nat)(L:List CsL)(f:Nat):LC×List RV×List Nat:=(cdE P md ai L f,rsF P f,muF md f)
section
variable {P:Program} {args:List D} {r:D} {os':qSl}
def WF(P:Program)(x:LC×List RV×List Nat)(r:D)(os:qSl)(args:List D):Prop:=@RUN P x.1 ⟨Done x.2.1 x.2.2 r os⟩ (init args)
def WFF(P:Program)(x:LC×List RV×List Nat)(r:D)(os:qSl)(args:List D):Prop:=@RUN P x.1 ⟨DoneF x.2.1 x.2.2 r os⟩ (init args)
def WFZ(P:Program)(x:LC×List RV×List Nat)(r:D)(os:qSl)(args:List D):Prop:=@RUN P x.1 ⟨DoneZ x.2.1 x.2.2 r os⟩ (init args)
theorem Qo4{c:LC}{rs:List RV}{mu:List Nat}:WF P (c,rs,mu) r os' args=@RUN P c ⟨Done rs mu r os'⟩ (init args):=id rfl
theorem Qo5{c:LC}{rs:List RV}{mu:List Nat}:WFF P (c,rs,mu) r os' args=@RUN P c ⟨DoneF rs mu r os'⟩ (init args):=id rfl
theorem Qo6{c:LC}{rs:List RV}{mu:List Nat}:WFZ P (c,rs,mu) r os' args=@RUN P c ⟨DoneZ rs mu r os'⟩ (init args):=id rfl
end
def ups{β:Type}:List (Nat×β)→List (Nat×β)→List (Nat×β)
 |l,[]=>l
 |l,(k,v)::m=>ups (up l k v) m
def ovr(s:St)(o:qSl)(g:qHp):St:=⟨ups s.sl o,ups s.hp g,s.nx⟩
theorem Qo7{β:Type}{l:List (Nat×β)}:ups l []=l:=id rfl
theorem Qo8{β:Type}{l m:List (Nat×β)}{k:Nat}{v:β}:ups l ((k,v)::m)=ups (up l k v) m:=id rfl
theorem Qo9{sl o:qSl}{hp g:qHp}{n:Nat}:ovr ⟨sl,hp,n⟩ o g=⟨ups sl o,ups hp g,n⟩:=id rfl
theorem Yw{P:Program}{q:LX→St→Prop}{s:St}{α:Type}(o:α→qSl)(g:α→qHp)(Inv:α→Prop)(μ:α→Nat)(a0:α){keep:List Nat}{body:LC}
  (h0:norm keep s=ovr (norm keep s) (o a0) (g a0)) (hi:Inv a0)
  (step:∀a,Inv a→@RUN P body ⟨LX.seq (fun s'=>∃a',norm keep s'=ovr (norm keep s) (o a') (g a')∧Inv a'∧μ a'<μ a) q⟩ (ovr (norm keep s) (o a) (g a))):@RUN P (.loop keep body) ⟨q⟩ s:=
 Xj (fun a=>ovr (norm keep s) (o a) (g a)) Inv μ a0 h0 hi step
theorem Xb{P:Program}{q:LX→St→Prop}{s:St}(k n i0:Nat){keep:List Nat}{body:LC}(h0:norm keep s=ovr (norm keep s) [(k,.int .i64 i0)] [])(hi:i0≤n)
  (step:∀i:Nat,i0≤i→i≤n→@RUN P body ⟨LX.seq (fun s'=>∃i':Nat,norm keep s'=ovr (norm keep s) [(k,.int .i64 i')] []∧(i0≤i'∧i'≤n)∧n-i'<n-i) q⟩ (ovr (norm keep s) [(k,.int .i64 i)] [])):@RUN P (.loop keep body) ⟨q⟩ s:=
 Yw (fun i:Nat=>[(k,.int .i64 i)]) (fun _=>[]) (fun i=>i0≤i∧i≤n) (fun i=>n-i) i0 h0 ⟨Qg _,hi⟩ fun i hi=>step i hi.1 hi.2
theorem Q8{P:Program}{q:LX→St→Prop}{s:St}(k n:Nat)(o:Nat→qSl)(g:Nat→qHp)(Inv:Nat→Prop){keep:List Nat}{body:LC}(h0:norm keep s=ovr (norm keep s) ((k,.int .i64 0)::o 0) (g 0))(hi:Inv 0)
  (step:∀i:Nat,i≤n→Inv i→@RUN P body ⟨LX.seq (fun s'=>∃i':Nat,norm keep s'=ovr (norm keep s) ((k,.int .i64 i')::o i') (g i')∧(i'≤n∧Inv i')∧n-i'<n-i) q⟩ (ovr (norm keep s) ((k,.int .i64 i)::o i) (g i))):@RUN P (.loop keep body) ⟨q⟩ s:=
 Yw (fun i:Nat=>(k,.int .i64 i)::o i) g (fun i=>i≤n∧Inv i) (fun i=>n-i) 0 h0 ⟨Nat.zero_le _,hi⟩ fun i hi=>step i hi.1 hi.2
theorem dcT{p:Prop}[Decidable p](h:p):decide p=true:=Qe h
theorem dcF{p:Prop}[Decidable p](h:¬p):decide p=false:=Qf h
theorem Qpa{α:Type}{c:Prop}[Decidable c]{a b:α}(h:¬c):(if c then a else b)=b:=if_neg h
theorem axS:(∀{p:Prop}[Decidable p],p→decide p=true)∧(∀{p:Prop}[Decidable p],¬p→decide p=false)∧(∀{α:Type}{c:Prop}[Decidable c]{a b:α},¬c→(if c then a else b)=b):=⟨dcT,dcF,Qpa⟩
theorem ayS:((∀{p:Prop}[Decidable p],p→decide p=true)∧(∀{p:Prop}[Decidable p],¬p→decide p=false)∧(∀{α:Type}{c:Prop}[Decidable c]{a b:α},¬c→(if c then a else b)=b))∧∀{a:Int},0≤a→(a.toNat:Int)=a:=⟨axS,Int.toNat_of_nonneg⟩
attribute [go_sem] Qo7 Qo8 Qo9
attribute [go_sem] Qo4 Qo5 Qo6
attribute [go_sem_proc] Int.reduceOfNat Int.reduceNegSucc
end Go.Am
namespace Go.Am
open Go
def gt{α:Type}[Inhabited α](l:List α)(j:Int):α:=l.getD j.toNat default
theorem QV{α:Type}[Inhabited α]{l:List α}{i:Nat}(h:i<l.length):gt l (i:Int)=l[i]:=by simp [gt,h]
theorem Qbn{α:Type}[Inhabited α]{l:List α}{j:Int}(h0:0≤j)(h:j<l.length):l[j.toNat]?=some (gt l j):=by
 have:j.toNat<l.length:=by omega
 simp [gt,this]
theorem QiS{l:List Int}{j:Int}(h0:0≤j)(h:j<l.length):(QR l)[j.toNat]?=some (.int .i64 (gt l j)):=by
 rw[QpG,Qbn h0 h];rfl
theorem Qpb{l:List Int}{i:Nat}(h:i<l.length):(QR l)[i]?=some (.int .i64 (gt l i)):=by
 have:=QiS (l:=l) (j:=i) (by omega) (by omega)
 simpa using this
structure E where
 t:Int
 f:Int
 o:Int
 deriving DecidableEq,Inhabited
def edD(x:E):D:=.agg [.int .i64 x.t,.int .i64 x.f,.int .i64 x.o]
def eds(l:List E):List D:=l.map edD
theorem Qpc(l:List E):(eds l).length=l.length:=by simp [eds]
theorem Qpd(l:List E)(a b c:Int):eds l++[.agg [.int .i64 a,.int .i64 b,.int .i64 c]]=eds (l++[⟨a,b,c⟩]):=by simp [eds,edD]
theorem Qpe(l m:List Int):QR l++QR m=QR (l++m):=by simp [QR]
theorem Qpf(l:List E):(eds l).all D.flatE=true:=by simp [eds,edD,D.flatE,D.flat0]
theorem QiT{l:List E}{j:Int}(h0:0≤j)(h:j<l.length):(eds l)[j.toNat]?=some (.agg [.int .i64 (gt l j).t,.int .i64 (gt l j).f,.int .i64 (gt l j).o]):=by
 unfold eds
 rw[List.getElem?_map,Qbn h0 h];rfl
theorem Qpg{l:List E}{i:Nat}(h:i<l.length):(eds l)[i]?=some (.agg [.int .i64 (gt l i).t,.int .i64 (gt l i).f,.int .i64 (gt l i).o]):=by
 have:=QiT (l:=l) (j:=i) (by omega) (by omega)
 simpa using this
theorem Qph{l:List Int}{i:Nat}{x:Int}:(QR l).set i (.int .i64 x)=QR (l.set i x):=by simp [QR,List.map_set]
theorem Qpi{l:List E}{i:Nat}{a b c:Int}:(eds l).set i (.agg [.int .i64 a,.int .i64 b,.int .i64 c])=eds (l.set i ⟨a,b,c⟩):=by simp [eds,List.map_set,edD]
theorem Qpj{n:Nat}{x:Int}:List.replicate n (.int .i64 x)=QR (List.replicate n x):=by simp [QR]
theorem Qpk{l:List Int}{n:Nat}:(QR l).take n=QR (l.take n):=by simp [QR,List.map_take]
theorem Qpl{l:List Int}{n:Nat}:(QR l).drop n=QR (l.drop n):=by simp [QR,List.map_drop]
def YK:D→Bool
 | .int ..| .bool _| .lst ..| .ref _=>true
 |_=>false
def Qb1:List D→List D→Prop
 |[],[]=>True
 |a::l,b::l'=>(a=b∨∃n m,a=.nl n∧(b=.lst m []∨b=.arr m []))∧Qb1 l l'
 |_,_=>False
theorem QiU{w:World}{I:Nat→Prop}:∀{a b:List D}{vs:List Value}{os:List Nat},Qb1 a b→DRs w I a vs os→DRs w I b vs os
 |[],[],_,_,_,h=>h
 |[],_::_,_,_,h,_=>h.elim
 |_::_,[],_,_,h,_=>h.elim
 |x::a,y::b,vs,os,h,k=>by
  obtain⟨h1,h2⟩:=h
  simp only[DRs] at k ⊢
  obtain⟨v,vs',o,o',rfl,rfl,k1,k2⟩:=k
  refine⟨v,vs',o,o',rfl,rfl,?_,QiU h2 k2⟩
  rcases h1 with rfl|⟨n,m,rfl,rfl|rfl⟩
  ·exact k1
  ·simp only[DR] at k1 ⊢
   exact⟨k1.2,by simp [QS],.inl ⟨⟨_,k1.1⟩,trivial⟩⟩
  ·simp only[DR] at k1 ⊢
   exact⟨by simp [QS],.inl ⟨k1.1,trivial,k1.2⟩⟩
theorem FC.nils{P:Program}{f:Nat}{a b:List D}{r:D}{outs:qSl}(h:FC P f b r outs)(k:Qb1 a b):FC P f a r outs:=
 ⟨h.1,fun w I vs os h1 h2 h3 h4=>h.2 w I vs os h1 h2 h3 (QiU k h4)⟩
theorem Qbo{cs:List D}(h:cs.all YK=true)(hp:qHp):QU (XE hp) cs=some cs:=by
 induction cs with
 |nil=>rfl
 |cons c cs ih=>
  simp only[List.all_cons,Qk] at h
  have:XE hp c=some c:=by cases c<;>simp [YK] at h<;>rfl
  simp only[QU,this,ih h.2]
theorem Qbp{cs:List D}(h:cs.all YK=true)(hp:qHp):QU (Xz hp) cs=some cs:=by
 induction cs with
 |nil=>rfl
 |cons c cs ih=>
  simp only[List.all_cons,Qk] at h
  have:Xz hp c=some c:=by cases c<;>simp [YK] at h<;>rfl
  simp only[QU,this,ih h.2]
theorem Qbq{cs:List D}(h:cs.all YK=true)(hp:qHp)(n:NS):Yf (XR hp) n cs=(cs,n):=by
 induction cs generalizing n with
 |nil=>rfl
 |cons c cs ih=>
  simp only[List.all_cons,Qk] at h
  have:∀n,XR hp n c=(c,n):=by intro n;cases c<;>simp [YK] at h<;>rfl
  simp only[Yf,this,ih h.2]
theorem ZN{cs:List D}(h:cs.all YK=true):cs.all YS=true:=by
 rw[Qs] at*
 intro c hc
 have:=h c hc
 cases c<;>simp [YK] at this<;>rfl
theorem QiV{t:Bool}{a b:Kp}(h:t=false→a.p)(k:t=true→b.p):@Jh (some (.bool (!t))) a b:=by
 cases t
 ·exact⟨fun _=>h rfl,fun e=>absurd e (by simp)⟩
 ·exact⟨fun e=>absurd e (by simp),fun _=>k rfl⟩
theorem Qdd{p:Prop}[Decidable p](h:p):decide p=true:=Qe h
theorem Qpm{α:Type}{c:Prop}[Decidable c]{a b:α}(h:c):(if c then a else b)=a:=if_pos h
attribute [go_sem] Int.natCast_nonneg decide_true decide_false not_true_eq_false not_false_eq_true QiS Qpc Qpd Qpe Qpf QiT Qph Qpi Qpj Qpk Qpl Int.toNat_natCast List.length_append List.length_set List.length_replicate Qi1
attribute [go_sem] List.getElem?_cons_zero List.getElem?_cons_succ List.getElem?_nil
attribute [go_sem low] Qpm Qpb Qpg
end Go.Am
namespace Go.Am
open Go
abbrev Cal:=Nat→List D→Option (D×qSl)
def Qde(K:Cal)(n:Nat)(hp:qHp)(f:Nat)(ds:List D)(md:List Md):Option (D×qHp):=
 match Zo hp md ds with
 |some p=>match K f p.1 with
  |some q=>match Zy false n hp p.2 ds md q.1 q.2 with
   |some z=>some z
   |none=>Zy true n hp p.2 ds md q.1 q.2
  |none=>none
 |none=>none
def Qdf(K:Cal)(n:Nat)(i:LI)(s:St):Option St:=
 match i.op with
 | .call f xs md=>match QU (ev s.sl) xs with
  |some ds=>(Qde K n s.hp f ds md).map fun p=>⟨Q5 i.dst p.1 s.sl,p.2,s.nx⟩
  |none=>none
 | .callv g xs=>match (ev s.sl g).bind Jv with
  |some c=>match QU (ev s.sl) xs with
   |some ds=>(Qde K n s.hp c.1 (ds++c.2) []).map fun p=>⟨Q5 i.dst p.1 s.sl,p.2,s.nx⟩
   |none=>none
  |none=>none
 | .isnil _ _=>none
 | .stf _ _=>none
 |op=>(eff n s.sl s.hp op).map fun p=>⟨Q5 i.dst p.1 s.sl,p.2,s.nx⟩
def Qdg(K:Cal)(n:Nat)(i:LI)(s:St):Option St:=
 match i.guard with
 |none=>Qdf K n i s
 |some (t,b)=>match lk s.sl t with
  |some (.bool c)=>if c=b then Qdf K n i s else some ⟨Q5 i.dst .undef s.sl,s.hp,s.nx⟩
  |some .undef=>some ⟨Q5 i.dst .undef s.sl,s.hp,s.nx⟩
  |_=>none
def Qb2(K:Cal):List LI→Nat→St→Option St
 |[],n,s=>some ⟨s.sl,s.hp,n⟩
 |i::l,n,s=>match Qdg K n i s with
  |some s'=>Qb2 K l (n+64) s'
  |none=>none
def xD(K:Cal)(cs:List (Nat×Option Nat×List Nat×Bool))(n0:Nat):List LI→Nat→Nat→List (Nat×List Nat×List Nat)→St→Option St
 |[],_,n,_,s=>some ⟨s.sl,s.hp,n⟩
 |x::l,i,n,log,s=>if Qax n0 (lk cs i) log (rdI s.sl s.hp x.op) (muI s.sl s.hp x.op)=true then
   match Qdg K n x s with
   |some s'=>xD K cs n0 l (i+1) (n+64) (if lgE (lk cs i) then (i,rdI s.sl s.hp x.op,muI s.sl s.hp x.op)::log else log) s'
   |none=>none
  else none
def Qdh(B:St→Option (LX×St))(keep:List Nat):Nat→St→Option (LX×St)
 |0,_=>none
 |m+1,s=>match B s with
  |some (.normal,s')=>Qdh B keep m (norm keep s')
  |r=>r
def xC(K:Cal)(fu:Nat):LC→St→Option (LX×St)
 | .skip,s=>some (.normal,s)
 | .ret,s=>some (.ret,s)
 | .exit id,s=>some (.exit id,s)
 | .seq a b,s=>match xC K fu a s with
  |some (.normal,s')=>xC K fu b s'
  |r=>r
 | .reg ops keep,s=>(Qb2 K ops s.nx s).map fun s'=>(.normal,⟨fil keep s'.sl,s'.hp,s'.nx⟩)
 | .dreg cs ops keep,s=>(xD K cs s.nx ops 0 s.nx [] s).map fun s'=>(.normal,⟨fil keep s'.sl,s'.hp,s'.nx⟩)
 | .cond c a b,s=>match ev s.sl c with
  |some (.bool true)=>xC K fu a s
  |some (.bool false)=>xC K fu b s
  |_=>none
 | .block id a,s=>match xC K fu a s with
  |some (.exit i,s')=>if i=id then some (.normal,s') else some (.exit i,s')
  |r=>r
 | .loop keep a,s=>Qdh (xC K fu a) keep fu (norm keep s)
abbrev Tab:=Nat→Option (LC×List RV×List Nat×Nat)
def xF(E:Cal)(T:Tab):Nat→Cal
 |0,_,_=>none
 |m+1,f,args=>match E f args with
  |some r=>some r
  |none=>match T f with
  |some (c,rs,outs,n)=>if (args.length==n&&args.all XK)=true then
    match xC (xF E T m) 100000 c (init args) with
    |some (.exit _,_)=>none
    |some (_,s)=>fin s rs outs
    |none=>none
   else none
  |none=>none
section
variable {P:Program}
def J8(P:Program)(K:Cal):Prop:=∀f ds r outs,K f ds=some (r,outs)→FC P f ds r outs
theorem QiW{K:Cal}(hK:J8 P K){n:Nat}{hp:qHp}{f:Nat}{ds:List D}{md:List Md}{z:D×qHp}(h:Qde K n hp f ds md=some z){Q:D×qHp→Prop}(hQ:Q z):YX P n hp f ds md Q:=by
 unfold Qde at h
 unfold YX
 cases h1:Zo hp md ds with
 |none=>rw[h1] at h;cases h
 |some p=>
  rw[h1] at h
  simp only at h
  cases h2:K f p.1 with
  |none=>rw[h2] at h;cases h
  |some q=>
   rw[h2] at h
   simp only at h
   obtain⟨r,outs⟩:=q
   cases h3:Zy false n hp p.2 ds md r outs with
   |some z'=>
    rw[h3] at h
    simp only[Qb] at h
    subst h
    exact⟨false,r,outs,hK _ _ _ _ h2,by show kon (Zy false n hp p.2 ds md r outs) Q;rw[h3];exact hQ⟩
   |none=>
    rw[h3] at h
    simp only at h
    exact⟨true,r,outs,hK _ _ _ _ h2,by show kon (Zy true n hp p.2 ds md r outs) Q;rw[h];exact hQ⟩
theorem Qfs{K:Cal}(hK:J8 P K){n:Nat}{i:LI}{s s':St}(h:Qdf K n i s=some s'){Q:St→Prop}(hQ:Q s'):XX P n i s Q:=by
 unfold Qdf at h
 unfold XX
 cases hop:i.op
 case call f xs md=>
  rw[hop] at h
  simp only at h ⊢
  cases h1:QU (ev s.sl) xs with
  |none=>rw[h1] at h;cases h
  |some ds=>
   rw[h1] at h
   simp only[Qi] at h
   obtain⟨p,h2,rfl⟩:=h
   exact QiW hK h2 hQ
 case callv g xs=>
  rw[hop] at h
  simp only at h ⊢
  cases h0:(ev s.sl g).bind Jv with
  |none=>rw[h0] at h;cases h
  |some c=>
   rw[h0] at h
   simp only at h
   cases h1:QU (ev s.sl) xs with
   |none=>rw[h1] at h;cases h
   |some ds=>
    rw[h1] at h
    simp only[Qi] at h
    obtain⟨p,h2,rfl⟩:=h
    exact QiW hK h2 hQ
 case isnil=>rw[hop] at h;cases h
 case stf=>rw[hop] at h;cases h
 case callm=>rw[hop] at h;simp [eff] at h
 case nxM=>rw[hop] at h;simp [eff] at h
 all_goals
  rw[hop] at h
  simp only[Qi] at h ⊢
  obtain⟨p,h2,rfl⟩:=h
  rw[h2]
  exact hQ
theorem QiX{K:Cal}(hK:J8 P K){n:Nat}{i:LI}{s s':St}(h:Qdg K n i s=some s'){Q:St→Prop}(hQ:Q s'):YD P n i s Q:=by
 unfold Qdg at h
 unfold YD
 cases hg:i.guard with
 |none=>rw[hg] at h;exact Qfs hK h hQ
 |some g=>
  obtain⟨t,b⟩:=g
  rw[hg] at h
  simp only at h
  split at h
  ·rename_i c hc
   cases b<;>simp only[hc]<;>cases c<;>simp only[if_true,if_false,Bool.false_eq_true,Bool.true_eq_false,Qb] at h
   ·exact⟨fun e=>(by cases e),fun _=>Qfs hK h hQ⟩
   ·subst h;exact⟨fun _=>hQ,fun e=>by cases e⟩
   ·subst h;exact⟨fun e=>(by cases e),fun _=>hQ⟩
   ·exact⟨fun _=>Qfs hK h hQ,fun e=>by cases e⟩
  ·rename_i hc
   simp only[Qb] at h
   subst h
   cases b<;>simp only[hc]<;>exact hQ
  ·cases h
theorem QiY{K:Cal}(hK:J8 P K):∀{l:List LI}{n:Nat}{s s':St},Qb2 K l n s=some s'→∀{Q:St→Prop},Q s'→Jw P l n s Q
 |[],n,s,s',h,Q,hQ=>by
  simp only[Qb2,Qb] at h
  subst h
  exact hQ
 |i::l,n,s,s',h,Q,hQ=>by
  simp only[Qb2] at h
  split at h
  ·rename_i s1 h1
   exact QiX hK h1 (QiY hK h hQ)
  ·cases h
theorem QiZ{K:Cal}(hK:J8 P K){cs:List (Nat×Option Nat×List Nat×Bool)}{n0:Nat}:∀{l:List LI}{i n:Nat}{log:List (Nat×List Nat×List Nat)}{s s':St},xD K cs n0 l i n log s=some s'→∀{Q:St→Prop},Q s'→WD P cs n0 l i n log s Q
 |[],i,n,log,s,s',h,Q,hQ=>by
  simp only[xD,Qb] at h
  subst h
  simp only[WD]
  exact hQ
 |x::l,i,n,log,s,s',h,Q,hQ=>by
  simp only[xD] at h
  split at h
  ·rename_i hc
   split at h
   ·rename_i s1 h1
    simp only[WD]
    exact⟨hc,QiX hK h1 (QiZ hK h hQ)⟩
   ·cases h
  ·cases h
theorem Jg{K:Cal}(hK:J8 P K){fu:Nat}:∀(c:LC){s s':St}{e:LX},xC K fu c s=some (e,s')→∀{Q:LX→St→Prop},Q e s'→W P c Q s
 | .skip,s,s',e,h,Q,hQ=>by simp only[xC,Qb,Qc] at h;obtain⟨rfl,rfl⟩:=h;exact hQ
 | .ret,s,s',e,h,Q,hQ=>by simp only[xC,Qb,Qc] at h;obtain⟨rfl,rfl⟩:=h;exact hQ
 | .exit id,s,s',e,h,Q,hQ=>by simp only[xC,Qb,Qc] at h;obtain⟨rfl,rfl⟩:=h;exact hQ
 | .seq a b,s,s',e,h,Q,hQ=>by
  simp only[xC] at h
  simp only[W]
  split at h
  ·rename_i s1 h1
   exact Jg hK a h1 (Q:=LX.seq (W P b Q) Q) (Jg hK b h hQ)
  ·rename_i hne
   refine Jg hK a h (Q:=LX.seq (W P b Q) Q) ?_
   cases e
   ·exact absurd h (hne s')
   ·exact hQ
   ·exact hQ
 | .reg ops keep,s,s',e,h,Q,hQ=>by
  simp only[xC,Qi,Qc] at h
  obtain⟨s1,h1,rfl,rfl⟩:=h
  simp only[W]
  exact QiY hK h1 hQ
 | .dreg cs ops keep,s,s',e,h,Q,hQ=>by
  simp only[xC,Qi,Qc] at h
  obtain⟨s1,h1,rfl,rfl⟩:=h
  simp only[W]
  exact QiZ hK h1 hQ
 | .cond c a b,s,s',e,h,Q,hQ=>by
  simp only[xC] at h
  simp only[W]
  split at h
  ·rename_i hc;rw[hc];exact⟨fun _=>Jg hK a h hQ,fun e=>by cases e⟩
  ·rename_i hc;rw[hc];exact⟨fun e=>(by cases e),fun _=>Jg hK b h hQ⟩
  ·cases h
 | .block id a,s,s',e,h,Q,hQ=>by
  simp only[xC] at h
  simp only[W]
  split at h
  ·rename_i i s1 h1
   refine Jg hK a h1 (Q:=LX.blk id Q) ?_
   simp only[LX.blk]
   split at h<;>rename_i hi<;>simp only[Qb,Qc] at h<;>obtain⟨rfl,rfl⟩:=h
   ·rw[if_pos hi];exact hQ
   ·rw[if_neg hi];exact hQ
  ·rename_i hne
   refine Jg hK a h (Q:=LX.blk id Q) ?_
   cases e
   ·exact hQ
   ·exact absurd h (hne _ s')
   ·exact hQ
 | .loop keep a,s,s',e,h,Q,hQ=>by
  simp only[xC] at h
  simp only[W]
  refine⟨fun m st=>Qdh (xC K fu a) keep m st=some (e,s'),⟨fu,h⟩,fun m st hm=>?_⟩
  cases m with
  |zero=>cases hm
  |succ m=>
   simp only[Qdh] at hm
   split at hm
   ·rename_i s1 h1
    exact Jg hK a h1 ⟨m,by omega,hm⟩
   ·rename_i hne
    refine Jg hK a hm ?_
    cases e
    ·exact absurd hm (hne s')
    ·exact hQ
    ·exact hQ
theorem Qi0{E:Cal}{T:Tab}(hE:J8 P E)(hT:∀f c rs outs n,T f=some (c,rs,outs,n)→∀args r os,args.length=n→args.all XK=true→W P c (Done rs outs r os) (init args)→FC P f args r os):∀m,J8 P (xF E T m)
 |0,f,ds,r,outs,h=>by cases h
 |m+1,f,ds,r,outs,h=>by
  simp only[xF] at h
  split at h
  ·rename_i q hq
   simp only[Qb] at h
   subst h
   exact hE _ _ _ _ hq
  split at h
  ·rename_i c rs os n hf
   split at h
   ·rename_i hc
    simp only[Qk,beq_iff_eq] at hc
    split at h
    ·cases h
    ·rename_i e s hne h1
     refine hT f c rs os n hf ds r outs hc.1 hc.2 (Jg (Qi0 hE hT m) c h1 ?_)
     cases e
     ·exact h
     ·exact (hne _ rfl).elim
     ·exact h
    ·cases h
   ·cases h
  ·cases h
end
end Go.Am
namespace Go.Am
open Go
def bs(l:List UInt8):ByteArray:=⟨l.toArray⟩
end Go.Am
