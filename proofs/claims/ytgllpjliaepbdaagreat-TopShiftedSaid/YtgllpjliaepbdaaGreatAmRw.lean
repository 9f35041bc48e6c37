/- From a function's contract to the statement about a law. -/
import Derived.Test.YtgllpjliaepbdaaGreatAmPg
import Derived.SizedLaws
import Derived.ChangeArms
import Derived.ChangeShapes
import Derived.Carry
import Derived.JoinedOf
import Derived.JoinedAt
import Derived.KernelRfl
namespace Go.Am
open Go Go.ChangeShapes Go.RowKit
inductive Sh where
 |int (k:IntKind)
 |bool
 |slc (sz bytes:Nat) (e:Sh)
 |cat (l:List Sh)
 deriving Inhabited,Repr
def Qco(P:Program)(f:TypeId→Option Sh)(fin:Nat):List Field→Nat→Option (List Sh)
 |[],off=>if off=fin then some [] else none
 |x::l,off=>if x.offset=off then (match f x.type,Qco P f fin l (off+P.cellsOf x.type) with
  |some s,some r=>some (s::r)
  |_,_=>none) else none
def ZU(P:Program):Nat→Bool→TypeId→Option Sh
 |0,_,_=>none
 |n+1,top,t=>match P.underlying t with
  |some (.int k)=>some (.int k)
  |some .bool=>some .bool
  |some (.slice e)=>if 0<P.cellsOf e∧0<P.bytesOf e then (ZU P n false e).map (.slc (P.cellsOf e) (P.bytesOf e)) else none
  |some (.struct fs)=>(Qco P (ZU P n top) (P.cellsOf t) fs.toList 0).map .cat
  |some (.array m e)=>if P.cellsOf t=m*P.cellsOf e then (ZU P n top e).map fun s=>.cat (List.replicate m s) else none
  |_=>none
mutual
def XM:Sh→D→Prop
 | .int k,x=>∃n,x=.int k n∧k.min≤n∧n≤k.max
 | .bool,x=>∃b,x=.bool b
 | .slc sz by_ e,x=>∃xs,x=.lst sz xs∧xs.length*by_≤reachBytes∧∀y∈xs,XM e y
 | .cat l,x=>∃ds,x=.agg ds∧HasShs l ds
def HasShs:List Sh→List D→Prop
 |[],ds=>ds=[]
 | .cat l'::l,ds=>∃a b,ds=a++b∧HasShs l' a∧HasShs l b
 |s::l,ds=>∃a b,ds=a::b∧XM s a∧HasShs l b
end
def HasCs(s:Sh)(ds:List D):Prop:=match s with
 | .cat l=>HasShs l ds
 |s=>∃x,ds=[x]∧XM s x
theorem HasShs.cons{s:Sh}{l:List Sh}{a b:List D}(h:HasCs s a)(k:HasShs l b):HasShs (s::l) (a++b):=by
 cases s
 case cat l'=>exact (by simp only[HasShs];exact⟨a,b,rfl,h,k⟩)
 all_goals
  obtain⟨x,rfl,hx⟩:=h
  simp only[HasShs]
  exact⟨x,b,rfl,hx,k⟩
def Qaw:List Sh→List D→Prop
 |[],ds=>ds=[]
 |s::l,ds=>∃a b,ds=a::b∧XM s a∧Qaw l b
section
variable {H:Type} {enc:TypeId×Value→H} {P:Program} {w:World}
def Qgq(w:World)(v:Value):Prop:=∀a len cap,v=.slice (some a) len cap→a.spot=none∧a.block<w.heap.size
def Jp(w:World)(b:Nat):Prop:=b<w.heap.size
theorem Qot{top:Bool}{n fuel:Nat}{spare:Nat→Bool}{held:Bool}{fin:Nat}{cs:List Value}(hcs:cs.length=fin)
  (ih:∀(t:TypeId)(sh:Sh)(cs':List Value)(x:DataW H×List MemPlace),ZU P n top t=some sh→DataW.trod enc P w 0 spare held fuel t cs'=some x→(∀m∈x.1.weights P t,m≤reachBytes)→∃ds,PC w (Jp w) ds cs'∧HasCs sh ds):∀(fs:List Field)(off:Nat)(xs:List (DataW H×List MemPlace))(l:List Sh),Qco P (ZU P n top) fin fs off=some l→xs.length=fs.length→
   (∀(i:Nat)(f:Field),fs[i]?=some f→DataW.trod enc P w 0 spare held fuel f.type ((cs.drop f.offset).take (P.cellsOf f.type))=xs[i]?)→
   (∀m∈DataW.weightsEach P (fs.map (·.type)) (xs.map (·.1)),m≤reachBytes)→∃ds,PC w (Jp w) ds (cs.drop off)∧HasShs l ds
 |[],off,xs,l,hs,hl,_,_=>by
  simp only[Qco] at hs
  split at hs
  case isFalse=>cases hs
  rename_i ho
  simp only[Qb] at hs
  subst hs
  refine⟨[],?_,by simp [HasShs]⟩
  rw[QB (by omega)]
  simp [PC]
 |f::fs,off,[],l,hs,hl,_,_=>by simp at hl
 |f::fs,off,x::xs,l,hs,hl,ht,hw=>by
  simp only[Qco] at hs
  split at hs
  case isFalse=>cases hs
  rename_i ho
  split at hs
  case h_2=>cases hs
  rename_i s r h1 h2
  simp only[Qb] at hs
  subst hs ho
  have h0:=ht 0 f rfl
  simp only[List.getElem?_cons_zero] at h0
  obtain⟨d1,p1,g1⟩:=ih f.type s _ x h1 h0 (fun m hm=>hw m (by simp only[List.map_cons,DataW.weightsEach,Qg];exact .inl hm))
  obtain⟨d2,p2,g2⟩:=Qot hcs ih fs (f.offset+P.cellsOf f.type) xs r h2 (by simpa using hl) (fun i f' hi=>by simpa using ht (i+1) f' (by simpa using hi)) (fun m hm=>hw m (by simp only[List.map_cons,DataW.weightsEach,Qg];exact .inr hm))
  refine⟨d1++d2,PC.append.2 ⟨_,_,?_,p1,p2⟩,HasShs.cons g1 g2⟩
  rw[←List.drop_drop,List.take_append_drop]
theorem Qou{fuel c m:Nat}{e:TypeId}{s:Sh}{spare:Nat→Bool}{held:Bool}{cs:List Value}(hcs:cs.length=m*c)
  (ih:∀(cs':List Value)(x:DataW H×List MemPlace),DataW.trod enc P w 0 spare held fuel e cs'=some x→(∀m∈x.1.weights P e,m≤reachBytes)→∃ds,PC w (Jp w) ds cs'∧HasCs s ds) {xs:List (DataW H×List MemPlace)} (hl:xs.length=m) (ht:∀i,i<m→DataW.trod enc P w 0 spare held fuel e ((cs.drop (i*c)).take c)=xs[i]?)
  (hw:∀q∈DataW.weightsAll P e (xs.map (·.1)),q≤reachBytes):∀k,k≤m→∃ds,PC w (Jp w) ds (cs.drop ((m-k)*c))∧HasShs (List.replicate k s) ds
 |0,_=>by
  refine⟨[],?_,by simp [HasShs]⟩
  rw[Nat.sub_zero,QB (by omega)]
  simp [PC]
 |k+1,hk=>by
  obtain⟨d2,p2,g2⟩:=Qou hcs ih hl ht hw k (by omega)
  have h0:=ht (m-(k+1)) (by omega)
  have hxs:m-(k+1)<xs.length:=by omega
  rw[Qq hxs] at h0
  have hmem:∀q∈(xs[m-(k+1)]).1.weights P e,q∈DataW.weightsAll P e (xs.map (·.1)):=by
   intro q hq
   have:∀(ys:List (DataW H×List MemPlace))(y:DataW H×List MemPlace),y∈ys→∀q∈y.1.weights P e,q∈DataW.weightsAll P e (ys.map (·.1)):=by
    intro ys y hy q hq
    induction ys with
    |nil=>cases hy
    |cons z ys ih=>
     simp only[List.map_cons,DataW.weightsAll,Qg]
     rcases Qh.1 hy with rfl|hy
     ·exact .inl hq
     ·exact .inr (ih hy)
   exact this xs _ (List.getElem_mem hxs) q hq
  obtain⟨d1,p1,g1⟩:=ih _ _ h0 (fun q hq=>hw q (hmem q hq))
  refine⟨d1++d2,PC.append.2 ⟨_,_,?_,p1,p2⟩,by rw[List.replicate_succ];exact HasShs.cons g1 g2⟩
  have e1:(m-k)*c=(m-(k+1))*c+c:=by
   rw[show m-k=m-(k+1)+1 by omega,Nat.add_mul,Nat.one_mul]
  rw[e1,←List.drop_drop,List.take_append_drop]
theorem HasCs.el{s:Sh}{ds:List D}(h:HasCs s ds){us:List Value}(hp:PC w (Jp w) ds us):∃x,XM s x∧P1 w (Jp w) x us:=by
 cases s with
 |cat l=>exact⟨.agg ds,by simp only[XM];exact⟨ds,rfl,h⟩,by simpa only[P1] using hp⟩
 |int k=>
  obtain⟨x,rfl,hx⟩:=h
  refine⟨x,hx,?_⟩
  simp only[XM] at hx
  obtain⟨n,rfl,_⟩:=hx
  simp only[PC,DR] at hp
  obtain⟨u,us',rfl,_,⟨rfl,_⟩,rfl⟩:=hp
  simp only[P1]
 |bool=>
  obtain⟨x,rfl,hx⟩:=h
  refine⟨x,hx,?_⟩
  simp only[XM] at hx
  obtain⟨n,rfl⟩:=hx
  simp only[PC,DR] at hp
  obtain⟨u,us',rfl,_,⟨rfl,_⟩,rfl⟩:=hp
  simp only[P1]
 |slc z b e=>
  obtain⟨x,rfl,hx⟩:=h
  refine⟨x,hx,?_⟩
  simp only[XM] at hx
  obtain⟨xs,rfl,_⟩:=hx
  simp only[PC,DR] at hp
  obtain⟨u,us',rfl,h1,⟨_,h2,h3⟩,rfl⟩:=hp
  simp only[P1]
  exact⟨u,rfl,h1,h2,h3⟩
theorem QRr{e:TypeId}:∀(ys:List (DataW H×List MemPlace))(y:DataW H×List MemPlace),y∈ys→∀q∈y.1.weights P e,q∈DataW.weightsAll P e (ys.map (·.1)):=by
 intro ys y hy q hq
 induction ys with
 |nil=>cases hy
 |cons z ys ih=>
  simp only[List.map_cons,DataW.weightsAll,Qg]
  rcases Qh.1 hy with rfl|hy
  ·exact .inl hq
  ·exact .inr (ih hy)
theorem QdF{spare:Nat→Bool}(hsp:∀b,spare b=true){held:Bool}:∀(n:Nat)(top:Bool)(fuel:Nat)(t:TypeId)(sh:Sh)(cs:List Value)(x:DataW H×List MemPlace),ZU P n top t=some sh→DataW.trod enc P w 0 spare held fuel t cs=some x→
  (∀m∈x.1.weights P t,m≤reachBytes)→∃ds,PC w (Jp w) ds cs∧HasCs sh ds
 |0,_,_,_,_,_,_,h,_,_=>by simp [ZU] at h
 |n+1,top,fuel,t,sh,cs,x,h,ht,hw=>by
  simp only[ZU] at h
  split at h
  ·rename_i k hk
   simp only[Qb] at h
   subst h
   obtain⟨m,rfl,rfl,hwf⟩:=DataW.trod_int hk ht
   simp only[Lit.wf,Qi,Qk] at hwf
   exact⟨[.int k m],by simp only[PC,DR];exact⟨_,_,rfl,rfl,⟨rfl,by trivial⟩,rfl⟩,.int k m,rfl,by simp only[XM];exact⟨m,rfl,hwf⟩⟩
  ·rename_i hk
   simp only[Qb] at h
   subst h
   obtain⟨m,rfl,rfl⟩:=DataW.trod_bool hk ht
   exact⟨[.bool m],by simp only[PC,DR];exact⟨_,_,rfl,rfl,⟨rfl,by trivial⟩,rfl⟩,.bool m,rfl,by simp only[XM];exact⟨m,rfl⟩⟩
  ·rename_i e hk
   split at h
   case isFalse=>cases h
   rename_i hc
   obtain⟨hc1,hc2⟩:=hc
   simp only[Qm] at h
   obtain⟨s,hs,rfl⟩:=h
   rcases DataW.trod_slice hk ht with⟨rfl,rfl⟩|⟨a,len,cap,elems,rest,m,rfl,rfl,rfl,_,hlc,hcap,hel,hE,hR,_⟩
   ·refine⟨[.lst (P.cellsOf e) []],?_,_,rfl,?_⟩
    ·simp only[PC,DR]
     exact⟨_,_,rfl,rfl,⟨by trivial,by simp,.inl ⟨⟨_,rfl⟩,by trivial⟩⟩,rfl⟩
    ·simp only[XM]
     exact⟨[],rfl,by simp,by simp⟩
   ·by_cases hcap0:cap=0
    ·subst hcap0
     obtain rfl:len=0:=by omega
     refine⟨[.lst (P.cellsOf e) []],?_,_,rfl,?_⟩
     ·simp only[PC,DR]
      exact⟨_,_,rfl,rfl,⟨by trivial,by simp,.inl ⟨⟨_,rfl⟩,by trivial⟩⟩,rfl⟩
     ·simp only[XM]
      exact⟨[],rfl,by simp,by simp⟩
    have hcell:∃u,w.cell? a=some u:=by
     have of:∀{us},w.cells? 0 (a.add (0*P.cellsOf e)) (P.cellsOf e)=some us→∃u,w.cell? a=some u:=fun {us} h=>by
      obtain⟨_,hl,hg⟩:=World.cells?_some h
      have h0:=hg 0 hc1
      have:0<us.length:=by omega
      rw[Qq this] at h0
      exact⟨_,by simpa [Addr.add] using h0⟩
     by_cases hl0:0<len
     ·have he:=hE 0 hl0
      rw[Qq (by omega),QI] at he
      obtain⟨us',hu1,_⟩:=he
      exact of hu1
     ·obtain⟨hr1,hr2⟩:=hR (hsp _)
      have he:=hr2 0 (by omega)
      rw[Qq (by omega),QI] at he
      obtain⟨us',hu1,_⟩:=he
      obtain rfl:len=0:=by omega
      exact of hu1
    obtain⟨hspot,hblk⟩:a.spot=none∧a.block<w.heap.size:=by
     obtain⟨u,hu⟩:=hcell
     unfold World.cell? at hu
     split at hu
     ·rename_i hg
      split at hu
      ·cases hu
      ·rename_i hs
       exact⟨by simpa using hs,(QK.1 hg).1⟩
     ·cases hu
    obtain⟨b,off,spot⟩:=a
    simp only at hspot hblk
    subst hspot
    have hwt:=hw ((elems.length+rest.length)*P.bytesOf e) (by simp [DataW.weights,hk])
    have hwe:∀y∈elems,∀q∈y.1.weights P e,q≤reachBytes:=fun y hy q hq=>hw q (by
     simp only[DataW.weights,hk,Qh,Qg]
     exact .inr (.inl (QRr _ _ hy q hq)))
    have hlenb:len*P.bytesOf e≤reachBytes:=by
     refine Qt (Nat.mul_le_mul_right _ ?_) hwt
     omega
    have hmax:len≤QW:=by
     have:len≤len*P.bytesOf e:=Nat.le_mul_of_pos_right _ hc2
     unfold reachBytes at hlenb
     unfold QW
     omega
    have key:∀k,k≤len→∃xs us,xs.length=k∧us.length=k*P.cellsOf e∧Mem w b off us∧PE w (Jp w) (P.cellsOf e) xs us∧∀y∈xs,XM s y:=by
     intro k
     induction k with
     |zero=>intro _;exact⟨[],[],rfl,by simp,Mem.nil,by simp [PE],by simp⟩
     |succ k ih=>
      intro hk'
      obtain⟨xs,us,h1,h2,h3,h4,h5⟩:=ih (by omega)
      have hk2:k<elems.length:=by omega
      have he:=hE k (by omega)
      rw[Qq hk2,QI] at he
      obtain⟨us',hu1,hu2⟩:=he
      obtain⟨_,hul,hug⟩:=World.cells?_some hu1
      obtain⟨ds,p1,g1⟩:=QdF hsp n false m e s us' _ hs hu2 (hwe _ (List.getElem_mem _))
      obtain⟨y,hy1,hy2⟩:=HasCs.el g1 p1
      refine⟨xs++[y],us++us',by simp [h1],by rw[Ql,h2,hul,Nat.add_mul,Nat.one_mul],Mem.append.2 ⟨h3,?_⟩,PE.append.2 ⟨us,us',rfl,h4,?_⟩,?_⟩
      ·intro j u hj
       have hj':j<P.cellsOf e:=by rw[←hul];exact (Qw.1 hj).1
       have:=hug j hj'
       rw[hj,Z5,Z5] at this
       rw[h2]
       exact this
      ·simp only[PE]
       exact⟨us',[],by simp,hul,hy2,rfl⟩
      ·intro z hz
       rcases Qg.1 hz with hz|hz
       ·exact h5 z hz
       ·simp only[Qn] at hz
        subst hz
        exact hy1
    obtain⟨xs,us,h1,h2,h3,h4,h5⟩:=key len (Qf _)
    refine⟨[.lst (P.cellsOf e) xs],?_,_,rfl,?_⟩
    ·simp only[PC,DR]
     exact⟨_,_,rfl,rfl,⟨by trivial,by omega,.inr ⟨b,off,cap,us,by rw[h1],by omega,hcap,hblk,h3,h4⟩⟩,rfl⟩
    ·simp only[XM]
     exact⟨xs,rfl,by rw[h1];exact hlenb,h5⟩
  ·rename_i fs hk
   simp only[Qm] at h
   obtain⟨l,hl,rfl⟩:=h
   obtain⟨xs,m,rfl,rfl,hcl,hxl,hx⟩:=DataW.trod_struct hk ht
   obtain⟨ds,p,g⟩:=Qot hcl (fun t sh cs' x h1 h2 h3=>QdF hsp n top m t sh cs' x h1 h2 h3) fs.toList 0 xs l hl (by simpa using hxl) (fun i f hi=>hx i f (by simpa using hi)) (fun q hq=>hw q (by simp only[DataW.weights,hk];exact hq))
   exact⟨ds,by simpa using p,g⟩
  ·rename_i m e hk
   split at h
   case isFalse=>cases h
   rename_i hcm
   simp only[Qm] at h
   obtain⟨s,hs,rfl⟩:=h
   cases fuel with
   |zero=>simp [DataW.trod] at ht
   |succ q=>
    unfold DataW.trod at ht
    rw[hk] at ht
    simp only at ht
    split at ht
    case isFalse=>cases ht
    rename_i hcl
    simp only[Qm] at ht
    obtain⟨xs,hxs,rfl⟩:=ht
    have hl:xs.length=m:=by simpa using mapM_some_length hxs
    obtain⟨ds,p,g⟩:=Qou (m:=m) (c:=P.cellsOf e) (by rw[hcl,hcm]) (fun cs' x h2 h3=>QdF hsp n top q e s cs' x hs h2 h3) hl (fun i hi=>mapM_some_get hxs i i (by simp [hi])) (fun q hq=>hw q (by simp only[DataW.weights,hk];exact hq)) m (Qf _)
    exact⟨ds,by simpa using p,g⟩
  ·cases h
theorem Qov{r:Reach}{base:Nat}{t:TypeId}{v:Value}(h:Cell.okWide P w r base t v):Qgq w v:=by
 intro a len cap hv
 subst hv
 have ok:∀t,Cell.ok P w r base t (.slice (some a) len cap)→a.spot=none∧a.block<w.heap.size:=by
  intro t h
  have key:∀(a:Addr)(e:TypeId)(m:Nat),w.has P r base a e m→a.spot=none∧a.block<w.heap.size:=by
   rintro a e m ⟨_,h1,row,cells,h2,_⟩
   refine⟨h1,?_⟩
   unfold World.shape? at h2
   rcases Nat.lt_or_ge a.block w.heap.size with hlt|hge
   ·exact hlt
   ·rw[Array.getElem?_eq_none hge] at h2;cases h2
  unfold Cell.ok at h
  split at h
  all_goals first
   |(rename_i hv;cases hv;exact key _ _ _ h.2.2)
   |(rename_i hv _;cases hv;exact key _ _ _ h.2.2)
   |(rename_i _ hv;cases hv;exact key _ _ _ h.2.2)
   |(rename_i hv;cases hv)
   |exact h.elim
 unfold Cell.okWide at h
 split at h
 all_goals first
  |exact ok _ h
  |simp_all
theorem QRs{base:Nat}{t:TypeId}{v:Value}(h:Value.okWide P w .any base t v):(∀u∈v.cells.toList,Qgq w u)∧((∃sh,∃n top l,ZU P (n+1) top t=some sh∧sh=.cat l)→∃cs,v=.agg cs):=by
 unfold Value.okWide at h
 have agg:∀cs:Array Value,Row.okWide P w .any base t cs→∀u∈cs.toList,Qgq w u:=by
  rintro cs ⟨ts,_,_,hc⟩ u hu
  obtain⟨i,hi⟩:=List.getElem?_of_mem hu
  obtain⟨t',_,h'⟩:=hc i u (by simpa using hi)
  exact Qov h'
 split at h
 ·obtain⟨cs,rfl,_,h⟩:=h
  exact⟨agg cs h,fun _=>⟨cs,rfl⟩⟩
 ·obtain⟨cs,rfl,_,h⟩:=h
  exact⟨agg cs h,fun _=>⟨cs,rfl⟩⟩
 ·rename_i h1 h2
  have hc:∀cs,v≠.agg cs:=by
   intro cs hv
   subst hv
   unfold Cell.okWide at h
   split at h<;>simp_all [Cell.ok]
  refine⟨fun u hu=>?_,?_⟩
  ·have:v.cells=#[v]:=by cases v<;>first|rfl|exact absurd rfl (hc _)
   rw[this] at hu
   simp only[Qn] at hu
   subst hu
   exact Qov h
  ·rintro⟨sh,n,top,l,hs,rfl⟩
   simp only[ZU] at hs
   split at hs<;>simp at hs
   ·rename_i fs hk;exact absurd hk (h1 _)
   ·rename_i m e hk;exact absurd hk (h2 _ _)
theorem QRt{spare:Nat→Bool}(hsp:∀b,spare b=true){held:Bool}{base n:Nat}{t:TypeId}{sh:Sh}{v:Value}{d:DataW H}{ps:List MemPlace}(hs:ZU P (n+1) true t=some sh)
  (ht:DataW.Trod enc P w 0 spare held t v d ps) (hw:∀m∈d.weights P t,m≤reachBytes) (hv:Value.okWide P w .any base t v):∃x,XM sh x∧DR w (Jp w) x v []:=by
 obtain⟨fuel,ht⟩:=ht
 obtain⟨hfine,hagg⟩:=QRs hv
 obtain⟨ds,hp,hc⟩:=QdF hsp (n+1) true fuel t sh _ _ hs ht hw
 have single:(∀l,sh≠.cat l)→∃x,XM sh x∧DR w (Jp w) x v []:=by
  intro hne
  have hna:∀cs,v≠.agg cs:=by
   intro cs hcs
   subst hcs
   simp only[ZU] at hs
   unfold Value.okWide at hv
   split at hs
   ·rename_i k hk;rw[hk] at hv;simp [Cell.okWide,Cell.ok,hk] at hv
   ·rename_i hk;rw[hk] at hv;simp [Cell.okWide,Cell.ok,hk] at hv
   ·rename_i e hk;rw[hk] at hv;simp [Cell.okWide,Cell.ok,hk] at hv
   ·simp only[Qm] at hs;obtain⟨l,_,rfl⟩:=hs;exact hne _ rfl
   ·split at hs
    ·simp only[Qm] at hs;obtain⟨l,_,rfl⟩:=hs;exact hne _ rfl
    ·cases hs
   ·cases hs
  have hv1:v.cells=#[v]:=by cases v<;>first|rfl|exact absurd rfl (hna _)
  rw[hv1] at hp
  have:∃x,ds=[x]∧XM sh x:=by
   cases sh with
   |cat l=>exact absurd rfl (hne l)
   |int=>exact hc
   |bool=>exact hc
   |slc=>exact hc
  obtain⟨x,rfl,hx⟩:=this
  simp only[PC] at hp
  obtain⟨u,us',h1,_,h3,_⟩:=hp
  simp only[List.cons.injEq] at h1
  obtain⟨rfl,_⟩:=h1
  exact⟨x,hx,h3⟩
 cases hsh:sh with
 |cat l=>
  subst hsh
  obtain⟨cs,rfl⟩:=hagg ⟨_,n,true,l,hs,rfl⟩
  refine⟨.agg ds,by simp only[XM];exact⟨ds,rfl,hc⟩,?_⟩
  simp only[DR]
  exact⟨cs,rfl,hp.one,hp.to_DRs⟩
 |int=>exact hsh▸single (by rw[hsh];simp)
 |bool=>exact hsh▸single (by rw[hsh];simp)
 |slc=>exact hsh▸single (by rw[hsh];simp)
theorem Qow{spare:Nat→Bool}(hsp:∀b,spare b=true){held:Bool}{base n:Nat}:∀(ts:List TypeId)(shs:List Sh)(vs:List Value)(ds:List (DataW H))(ps:List MemPlace),Q1 (ZU P (n+1) true) ts=some shs→
  DataW.TrodAll enc P w 0 spare held ts vs ds ps→(∀m∈DataW.weightsEach P ts ds,m≤reachBytes)→(∀(j:Nat)(t:TypeId)(v:Value),ts[j]?=some t→vs[j]?=some v→Value.okWide P w .any base t v)→
  ∃xs,Qaw shs xs∧DRs w (Jp w) xs vs []
 |[],shs,vs,ds,ps,hs,ht,_,_=>by
  simp only[Q1,Qb] at hs
  subst hs
  obtain⟨rfl,_,_⟩:=trodAll_nil ht
  exact⟨[],by simp [Qaw],by simp [DRs]⟩
 |t::ts,shs,vs,ds,ps,hs,ht,hw,hv=>by
  simp only[Q1] at hs
  split at hs
  case h_2=>cases hs
  rename_i s l h1 h2
  simp only[Qb] at hs
  subst hs
  match vs,ds,ht with
  |v::vs,d::ds,ht=>
   obtain⟨p,q,g1,g2,rfl⟩:=ht
   obtain⟨x,a1,b1⟩:=QRt hsp h1 g1 (fun m hm=>hw m (by simp only[DataW.weightsEach,Qg];exact .inl hm)) (hv 0 t v rfl rfl)
   obtain⟨xs,a2,b2⟩:=Qow hsp ts l vs ds q h2 g2 (fun m hm=>hw m (by simp only[DataW.weightsEach,Qg];exact .inr hm)) (fun j t v hj hv'=>hv (j+1) t v (by simpa using hj) (by simpa using hv'))
   refine⟨x::xs,by simp only[Qaw];exact⟨x,xs,rfl,a1,a2⟩,?_⟩
   simp only[DRs]
   exact⟨v,vs,[],[],rfl,rfl,b1,b2⟩
theorem Qox(hl:laidOutB P=true){W W':World}(hb:Below W.heap.size W W'):∀(ts:List TypeId)(vs:List Value)(ds:List (DataW H))(ps:List MemPlace),(ts.all fun t=>P.readableRec t&&decide (t<P.types.size))=true→
  DataW.TrodAll enc P W 0 (fun _=>true) true ts vs ds ps→(∀x∈ps,x.block<W.heap.size)→DataW.TrodAll enc P W' 0 (fun b=>decide (b<W.heap.size)) true ts vs ds ps
 |[],vs,ds,ps,_,ht,_=>by
  obtain⟨rfl,rfl,rfl⟩:=trodAll_nil ht
  rfl
 |t::ts,[],ds,ps,_,ht,_=>by cases ds<;>simp [DataW.TrodAll] at ht
 |t::ts,v::vs,[],ps,_,ht,_=>by simp [DataW.TrodAll] at ht
 |t::ts,v::vs,d::ds,ps,hr,ht,hlt=>by
  simp only[List.all_cons,Qi,Qk] at hr
  obtain⟨p,q,g1,g2,rfl⟩:=ht
  exact⟨p,q,Below.trod hl hr.1.1 hr.1.2 g1 hb (fun x hx=>hlt x (List.mem_append_left _ hx)),Qox hl hb ts vs ds q hr.2 g2 (fun x hx=>hlt x (List.mem_append_right _ hx)),rfl⟩
theorem Qoy{b:Nat}{sp:Nat→Bool}{hd:Bool}:∀{ts:List TypeId}{vs:List Value}{ds:List (DataW H)}{ps:List MemPlace},DataW.TrodAll enc P w b sp hd ts vs ds ps→ds.length=ts.length
 |[],vs,ds,ps,h=>by obtain⟨_,rfl,_⟩:=trodAll_nil h;rfl
 |t::ts,[],ds,ps,h=>by cases ds<;>simp [DataW.TrodAll] at h
 |t::ts,v::vs,[],ps,h=>by simp [DataW.TrodAll] at h
 |t::ts,v::vs,d::ds,ps,h=>by
  obtain⟨p,q,_,g2,_⟩:=h
  simp [Qoy g2]
theorem QRu{f:Nat}{fn:Func}{s:ChangeSpec}{shs:List Sh}{tb:TypeId}{fresh handsOn:Bool}(hsh:Q1 (ZU P 9 true) fn.params.toList=some shs)(hFC:∀args,Qaw shs args→FC P f args (.bool true) [])
  (hrt:fn.resultTypes.toList=[tb]) (htb:P.underlying tb=some .bool) (hl:laidOutB P=true) (hr:(fn.params.toList.all fun t=>P.readableRec t&&decide (t<P.types.size))=true)
  (hvars:s.vars=[]) (hspec:∀ds:List (DataW H),ds.length=fn.params.toList.length→s.fn H ds=⟨[.lit (.bool true)],ds,[]⟩)
  {W:World} {base:Nat} {args:Array Value} {ds gs:List (DataW H)} {before:List MemPlace}
  (hval:∀(j:Nat) t v,fn.params[j]?=some t→args[j]?=some v→Value.okWide P W .any base t v) (hW:DataW.Whole enc P fn.params.toList s.vars false W args.toList ds gs before)
  (hsz:(DataW.weightsEach P (fn.params.toList++s.plain.varTypes P) (ds++gs)).all (·≤reachBytes)=true):
  Calls P f args W fun e W'=>∃v,e=.returned v∧s.post enc P fn false fresh handsOn false W args v W':=by
 have hW':=hW
 obtain⟨p,q,hA,hV,rfl,hz1,hz2⟩:=hW
 have hgs:gs=[]∧q=[]:=by
  rw[hvars] at hV
  cases gs with
  |nil=>exact⟨rfl,hV⟩
  |cons g gs=>simp [DataW.TrodVars] at hV
 obtain⟨rfl,rfl⟩:=hgs
 have hplen:=Qoy hA
 have hwt:∀m∈DataW.weightsEach P fn.params.toList ds,m≤reachBytes:=by
  intro m hm
  have key:∀(ts us:List TypeId)(ds:List (DataW H)),ds.length=ts.length→∀m∈DataW.weightsEach P ts ds,m∈DataW.weightsEach P (ts++us) ds:=by
   intro ts
   induction ts with
   |nil=>intro us ds hl m hm;cases ds<;>simp [DataW.weightsEach] at hm
   |cons t ts ih=>
    intro us ds hl m hm
    cases ds with
    |nil=>simp [DataW.weightsEach] at hm
    |cons d ds=>
     simp only[List.cons_append,DataW.weightsEach,Qg] at hm ⊢
     exact hm.imp id (ih us ds (by simpa using hl) m)
  have:=Qr.1 hsz m (by rw[List.append_nil];exact key _ _ _ hplen m hm)
  simpa using this
 obtain⟨xs,hx,hdr⟩:=Qow (n:=8) (base:=base) (fun _=>rfl) fn.params.toList shs args.toList ds p hsh hA hwt (fun j t v hj hv=>hval j t v (by simpa using hj) (by simpa using hv))
 have hcall:=(hFC xs hx).2 W (Jp W) args.toList [] (fun b hb=>⟨hb,by simp⟩) (by simp) (by simp) hdr
 rw[Array.toArray_toList] at hcall
 refine hcall.mono ?_
 rintro e W' ⟨v,os',rfl,hst,_,_,hres⟩
 simp only[List.map_nil,DRs] at hres
 obtain⟨v0,vs0,o,o',hveq,rfl,hdb,hvs0,ho0⟩:=hres
 subst hvs0 ho0
 simp only[List.cons.injEq,and_true] at hveq
 subst hveq
 simp only[DR] at hdb
 obtain⟨rfl,rfl⟩:=hdb
 have hb:Below W.heap.size W W':=⟨hst.os,hst.tape,hst.output,hst.size,fun k hk=>hst.block k hk (by simp)⟩
 have hlt:∀x∈p,x.block<W.heap.size:=fun x hx=>by simpa using hW'.lt x (by simpa using hx)
 refine⟨_,rfl,ds,[],p++[],[],p,[],hW',?_,?_,?_,hb.frame _,fun h=>by cases h⟩
 ·rw[List.append_nil,hspec ds hplen,hrt]
  have:(Value.bool true).resultList fn.resultTypes.size=[.bool true]:=by
   have:fn.resultTypes.size=1:=by rw[←Array.length_toList,hrt];rfl
   rw[this];rfl
  rw[this]
  exact trodAll_mk1 ⟨1,by simp [DataW.trod,Value.cells,htb]⟩
 ·rw[List.append_nil,hspec ds hplen]
  exact Qox hl hb _ _ _ _ hr hA hlt
 ·rw[List.append_nil,hspec ds hplen,hvars]
  exact rfl
end
end Go.Am
