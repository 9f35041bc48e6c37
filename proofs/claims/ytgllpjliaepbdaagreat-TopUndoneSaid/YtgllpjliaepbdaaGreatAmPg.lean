/- Contracts and what they rest on: AmPg. -/
import Derived.Test.YtgllpjliaepbdaaGreatAmPf
set_option linter.unusedVariables false
set_option linter.unusedSimpArgs false
set_option linter.unnecessarySimpa false
namespace Go.Am
open Go
structure Loc(S:Nat→Prop)(T:qHp→qHp):Prop where
 out (l:qHp) (id:Nat):¬S id→lk (T l) id=lk l id
 same (l m:qHp):(∀id,S id→lk m id=lk l id)→∀id,S id→lk (T m) id=lk (T l) id
section
variable {S:Nat→Prop} {T U:qHp→qHp}
theorem Loc.id:Loc S (fun l=>l):=⟨fun _ _ _=>rfl,fun _ _ h=>h⟩
theorem Loc.comp(h:Loc S T)(k:Loc S U):Loc S (fun l=>T (U l)):=
 ⟨fun hp id hn=>(h.out _ id hn).trans (k.out _ id hn),fun hp hp2 he=>h.same _ _ (k.same _ _ he)⟩
theorem Loc.up{i:Nat}{e:Ent}(hi:S i):Loc S (fun l=>up l i e):=
 ⟨fun hp id hn=>by rw[Xw,if_neg (fun e:id=i=>hn (e▸hi))],fun hp hp2 he id hs=>by rw[Xw,Xw];split;rfl;exact he id hs⟩
theorem Loc.rm{i:Nat}(hi:S i):Loc S (fun l=>rm l i):=
 ⟨fun hp id hn=>by rw[Yo,if_neg (fun e:id=i=>hn (e▸hi))],fun hp hp2 he id hs=>by rw[Yo,Yo];split;rfl;exact he id hs⟩
theorem Loc.freeze{l:List Nat}(hl:∀id∈l,S id):Loc S (Q9 l):=
 ⟨fun hp id hn=>by
  rw[QeQ,if_neg' (fun hm=>hn (hl id hm))],fun hp hp2 he id hs=>by rw[QeQ,QeQ,he id hs]⟩
where
 if_neg' {l:List Nat} {id:Nat} {o:Option Ent} (h:id∉l):(o.map fun e=>if id∈l then e.frozen else e)=o:=by
  cases o<;>simp [h]
theorem Qop{α:Type}{E:List (Nat×α)}{id:Nat}(h:∀p∈E,p.1≠id):lk E id=none:=by
 cases hE:lk E id with
 |none=>rfl
 |some a=>exact absurd rfl (h _ (J3 hE))
theorem Loc.app{E:qHp}(hE:∀p∈E,S p.1):Loc S (fun l=>E++l):=
 ⟨fun hp id hn=>by rw[Jy,Qop (fun p hp (e:p.1=id)=>hn (e▸hE p hp))];rfl,fun hp hp2 he id hs=>by rw[Jy,Jy,he id hs]⟩
end
theorem Jc{α β:Type}{f g:α→Option β}:∀{l:List α},(∀a∈l,f a=g a)→QU f l=QU g l
 |[],_=>rfl
 |a::l,h=>by simp only[QU,h a (by simp),Jc (l:=l) (fun b hb=>h b (Qu _ hb))]
section
variable {hp hp2 hp':qHp} {sl sl2:qSl} {d:D} {n:Nat}
theorem QeU(h:∀id∈d.ids0,lk hp2 id=lk hp id):Xl hp2 d=Xl hp d:=by
 cases d<;>simp only[Xl]
 rw[h _ (by simp [D.ids0])]
theorem QeV{cs:List D}(h:∀id∈cs.flatMap D.ids0,lk hp2 id=lk hp id):QU (Xl hp2) cs=QU (Xl hp) cs:=
 Jc fun c hc=>QeU fun id hid=>h id (Qr.2 ⟨c,hc,hid⟩)
theorem Qh1(h:∀id∈d.ids,lk hp2 id=lk hp id):pur hp2 d=pur hp d:=by
 cases d<;>simp only[pur]
 case agg cs=>rw[QeV (by simpa only[D.ids] using h)]
 all_goals exact QeU (by simpa only[D.ids] using h)
theorem Qh2(h:∀id∈d.rch1 hp,lk hp2 id=lk hp id):XE hp2 d=XE hp d:=by
 cases d<;>simp only[XE]
 case agg cs=>rw[QeV (by simpa only[D.rch1] using h)]
 case pt id off=>
  simp only[D.rch1] at h
  have h0:=h id (by simp)
  rw[h0]
  split
  ·rename_i cs hcs
   rw[QeV (fun i hi=>h i (by rw[hcs];exact Qu _ hi))]
  ·rfl
 all_goals exact QeU (by simpa only[D.rch1] using h)
theorem Qh3(h:∀id∈d.rch hp,lk hp2 id=lk hp id):Xz hp2 d=Xz hp d:=by
 cases d<;>simp only[Xz]
 case clo f cs=>
  rw[Jc fun c hc=>Qh2 fun id hid=>h id (Qr.2 ⟨c,hc,hid⟩)]
 all_goals exact Qh2 (by simpa only[D.rch] using h)
theorem QeW{sz:Nat}(h:∀id∈d.hd,lk hp2 id=lk hp id):rdS hp2 sz d=rdS hp sz d:=by
 cases d<;>simp only[rdS]
 rw[h _ (by simp [D.hd])]
theorem Qh4{id:Nat}(h:lk hp2 id=lk hp id):entSz hp2 id=entSz hp id:=by simp only[entSz,h]
theorem QeX{e:D}(h:Xl hp d=some e):∀id∈d.ids0,lk hp id≠none:=by
 cases d<;>simp only[D.ids0,List.not_mem_nil,false_implies,implies_true,Qm,forall_eq]
 all_goals
  intro hn
  simp [Xl,hn] at h
theorem Qc6{α β:Type}{f:α→Option β}:∀{l:List α}{m:List β},QU f l=some m→∀a∈l,∃b,f a=some b
 |[],_,_,a,ha=>by simp at ha
 |x::l,m,h,a,ha=>by
  simp only[QU] at h
  split at h
  case h_2=>cases h
  rename_i b m' hb hm
  rcases Qh.1 ha with rfl|ha
  ·exact⟨b,hb⟩
  ·exact Qc6 hm a ha
theorem QeY{cs es:List D}(h:QU (Xl hp) cs=some es):∀id∈cs.flatMap D.ids0,lk hp id≠none:=by
 intro id hid
 obtain⟨c,hc,hi⟩:=Qr.1 hid
 obtain⟨e,he⟩:=Qc6 h c hc
 exact QeX he id hi
theorem Qh5{e:D}(h:pur hp d=some e):∀id∈d.ids,lk hp id≠none:=by
 cases d
 case agg cs=>
  simp only[pur,Qi] at h
  obtain⟨es,h,_⟩:=h
  exact QeY h
 all_goals exact QeX (by simpa only[pur] using h)
theorem Qh6{e:D}(h:XE hp d=some e):∀id∈d.rch1 hp,lk hp id≠none:=by
 cases d
 case agg cs=>
  simp only[XE,Qi] at h
  obtain⟨es,h,_⟩:=h
  exact QeY h
 case pt i off=>
  simp only[XE] at h
  split at h
  ·rename_i cs hcs
   simp only[Qi] at h
   obtain⟨es,h,_⟩:=h
   intro id hid
   simp only[D.rch1,hcs,Qh] at hid
   rcases hid with rfl|hid
   ·simp [hcs]
   ·exact QeY h id hid
  ·cases h
 case ref cs=>intro id hid;simp [D.rch1,D.ids0] at hid
 all_goals exact QeX (by simpa only[XE] using h)
theorem Qoq{e:D}(h:Xz hp d=some e):∀id∈d.rch hp,lk hp id≠none:=by
 cases d
 case clo f cs=>
  simp only[Xz,Qi] at h
  obtain⟨es,h,_⟩:=h
  intro id hid
  obtain⟨c,hc,hi⟩:=Qr.1 hid
  obtain⟨e,he⟩:=Qc6 h c hc
  exact Qh6 he id hi
 all_goals exact Qh6 (by simpa only[Xz] using h)
theorem QeZ{sz:Nat}{l:List D}(h:rdS hp sz d=some l):∀id∈d.hd,lk hp id≠none:=by
 cases d<;>simp only[D.hd,List.not_mem_nil,false_implies,implies_true,Qm,forall_eq]
 ·intro hn;simp [rdS,hn] at h
 ·simp [rdS] at h
 ·simp [rdS] at h
 ·simp [rdS] at h
theorem Qh7{id s:Nat}(h:entSz hp id=some s):lk hp id≠none:=by
 intro hn;simp [entSz,hn] at h
theorem Q7{x:X}(h:ev sl x=some d):evL sl x=d:=by simp [evL,h]
theorem Qh8{sz:Nat}:∀{ps:List (Nat×X)}{es:List D},(∀id∈ps.flatMap fun p=>(evL sl p.2).ids,lk hp2 id=lk hp id)→Yn sl hp2 sz ps es=Yn sl hp sz ps es
 |[],_,_=>rfl
 |(i,x)::ps,es,h=>by
  simp only[Yn]
  split
  ·rename_i d hd
   rw[Qh1 (fun id hid=>h id (by simp only[List.flatMap_cons,Qd,Q7 hd];exact .inl hid))]
   split
   ·split
    ·rw[Qh8 (fun id hid=>h id (by simp only[List.flatMap_cons,Qd];exact .inr hid))]
    ·rfl
   ·rfl
  ·rfl
theorem Qh9{sz:Nat}:∀{ps:List (Nat×X)}{es l:List D}{f:List Nat},Yn sl hp sz ps es=some (l,f)→
  f=(ps.flatMap fun p=>(evL sl p.2).ids)∧∀id∈ps.flatMap fun p=>(evL sl p.2).ids,lk hp id≠none
 |[],es,l,f,h=>by
  simp only[Yn,Qb,Qc] at h
  simp [←h.2]
 |(i,x)::ps,es,l,f,h=>by
  simp only[Yn] at h
  split at h
  case h_2=>cases h
  rename_i d hd
  split at h
  case h_2=>cases h
  rename_i e he
  split at h
  case isFalse=>cases h
  simp only[Qi] at h
  obtain⟨⟨l',f'⟩,h,hh⟩:=h
  simp only[Qc] at hh
  obtain⟨h1,h2⟩:=Qh9 h
  rw[List.flatMap_cons,Q7 hd,←hh.2,h1]
  refine⟨rfl,fun id hid=>?_⟩
  rcases Qd.1 hid with hid|hid
  ·exact Qh5 he id hid
  ·exact h2 id hid
theorem Qia{ag:Bool}{m:Nat}{x:X}(he:ldE sl hp ag m x=some (d,hp')):hp'=hp∧(∀id∈(evL sl x).hd,lk hp id≠none)∧∀hp2,(∀id∈(evL sl x).hd,lk hp2 id=lk hp id)→ldE sl hp2 ag m x=some (d,hp2):=by
 simp only[ldE] at he
 split at he
 ·rename_i id off hx
  split at he
  ·rename_i cs hl
   simp only[Qi,Qc] at he
   obtain⟨d',hd,rfl,rfl⟩:=he
   refine⟨rfl,?_,fun hp2 h=>?_⟩
   ·simp [Q7 hx,D.hd,hl]
   ·simp [Q7 hx,D.hd] at h
    simp [ldE,hx,h,hl,hd]
  ·cases he
 ·rename_i cs hx
  simp only[Qi,Qc] at he
  obtain⟨d',hd,rfl,rfl⟩:=he
  refine⟨rfl,?_,fun hp2 h=>?_⟩
  ·simp [Q7 hx,D.hd]
  ·simp [ldE,hx,hd]
 ·rename_i id i off hx
  split at he
  ·rename_i sz xs hl
   split at he
   ·rename_i e hxe
    simp only[Qi,Qc] at he
    obtain⟨d',hd,rfl,rfl⟩:=he
    refine⟨rfl,?_,fun hp2 h=>?_⟩
    ·simp [Q7 hx,D.hd,hl]
    ·simp [Q7 hx,D.hd] at h
     simp [ldE,hx,h,hl,hxe,hd]
   ·cases he
  ·rename_i sz xs hl
   split at he
   ·rename_i e hxe
    simp only[Qi,Qc] at he
    obtain⟨d',hd,rfl,rfl⟩:=he
    refine⟨rfl,?_,fun hp2 h=>?_⟩
    ·simp [Q7 hx,D.hd,hl]
    ·simp [Q7 hx,D.hd] at h
     simp [ldE,hx,h,hl,hxe,hd]
   ·cases he
  ·cases he
 ·cases he
theorem Qor{op:LOp}(hg:∀hp,eff n sl hp op=(eff n sl [] op).map fun p=>(p.1,hp))(hr:rdI sl hp op=[])(he:eff n sl hp op=some (d,hp')):
  ∃T,hp'=T hp∧Loc (fun id=>id∈muI sl hp op∨(op.ck=true∧n≤id∧id<n+64)) T∧
  (∀id∈rdI sl hp op,lk hp id≠none)∧∀hp2,(∀id∈rdI sl hp op,lk hp2 id=lk hp id)→eff n sl hp2 op=some (d,T hp2):=by
 rw[hg,Qi] at he
 obtain⟨p,hp0,hh⟩:=he
 simp only[Qc] at hh
 obtain⟨rfl,rfl⟩:=hh
 exact⟨fun l=>l,rfl,Loc.id,by simp [hr],fun hp2 _=>by rw[hg,hp0];rfl⟩
theorem QbV{op:LOp}{g:Option (D×Ent)}(hck:op.ck=true)(hg:∀hp,eff n sl hp op=g.map fun p=>(p.1,up hp n p.2))(hr:rdI sl hp op=[])(he:eff n sl hp op=some (d,hp')):
  ∃T,hp'=T hp∧Loc (fun id=>id∈muI sl hp op∨(op.ck=true∧n≤id∧id<n+64)) T∧
  (∀id∈rdI sl hp op,lk hp id≠none)∧∀hp2,(∀id∈rdI sl hp op,lk hp2 id=lk hp id)→eff n sl hp2 op=some (d,T hp2):=by
 rw[hg,Qi] at he
 obtain⟨p,hp0,hh⟩:=he
 simp only[Qc] at hh
 obtain⟨rfl,rfl⟩:=hh
 exact⟨fun l=>up l n p.2,rfl,Loc.up (.inr ⟨hck,by omega⟩),by simp [hr],fun hp2 _=>by rw[hg,hp0];rfl⟩
theorem Jd{op:LOp}(hp0:hp'=hp)(hp1:∀id∈rdI sl hp op,lk hp id≠none)(hp2:∀hp2,(∀id∈rdI sl hp op,lk hp2 id=lk hp id)→eff n sl hp2 op=some (d,hp2)):
  ∃T,hp'=T hp∧Loc (fun id=>id∈muI sl hp op∨(op.ck=true∧n≤id∧id<n+64)) T∧
  (∀id∈rdI sl hp op,lk hp id≠none)∧∀hp2,(∀id∈rdI sl hp op,lk hp2 id=lk hp id)→eff n sl hp2 op=some (d,T hp2):=
 ⟨fun l=>l,hp0,Loc.id,hp1,hp2⟩
set_option maxHeartbeats 2000000 in
theorem Qos{op:LOp}(he:eff n sl hp op=some (d,hp')):∃T,hp'=T hp∧Loc (fun id=>id∈muI sl hp op∨(op.ck=true∧n≤id∧id<n+64)) T∧
  (∀id∈rdI sl hp op,lk hp id≠none)∧∀hp2,(∀id∈rdI sl hp op,lk hp2 id=lk hp id)→eff n sl hp2 op=some (d,T hp2):=by
 have fr:n≤n∧n<n+64:=by omega
 cases op
 case alloc z=>exact QbV rfl (g:=some (.pt n 0,.box z)) (fun _=>rfl) rfl he
 case bx x=>exact QbV rfl (g:=((ev sl x).bind YR).map fun cs=>(.pt n 0,.box cs)) (fun hp=>by simp only[eff,Option.map_map];rfl) rfl he
 case makeSl s b z x=>
  refine QbV rfl (g:=match (ev sl x).bind asI with|some m=>if 0≤m∧Ya m.toNat b then some (.sl n 0 m.toNat,.arr s (List.replicate m.toNat z)) else none|none=>none) (fun hp=>?_) rfl he
  cases h:(ev sl x).bind asI with
  |none=>simp [eff,h]
  |some m=>by_cases hc:0≤m∧Ya m.toNat b=true<;>simp [eff,h,hc]
 case load ag m x=>
  obtain⟨h1,h2,h3⟩:=Qia he
  exact Jd h1 h2 h3
 case slc s x lo hi=>
  simp only[eff] at he
  split at he
  ·rename_i id lo0 len l hx hlo
   split at he
   ·rename_i h hhi
    split at he
    ·rename_i hc
     simp only[Qb,Qc] at he
     obtain⟨rfl,rfl⟩:=he
     have hp0:lk hp id≠none:=Qh7 hc.2.2.2
     refine Jd rfl ?_ fun hp2 hh=>?_
     ·simp [rdI,Q7 hx,D.hd,hp0]
     ·simp [rdI,Q7 hx,D.hd] at hh
      simp only[eff,hx,hlo,hhi]
      rw[if_pos ⟨hc.1,hc.2.1,hc.2.2.1,by rw[Qh4 hh];exact hc.2.2.2⟩]
    ·cases he
   ·cases he
  ·rename_i s' xs l hx hlo
   split at he
   ·rename_i h hhi
    split at he
    ·rename_i hc
     simp only[Qb,Qc] at he
     obtain⟨rfl,rfl⟩:=he
     refine Jd rfl ?_ fun hp2 hh=>?_
     ·simp [rdI,Q7 hx,D.hd]
     ·simp only[eff,hx,hlo,hhi]
      rw[if_pos hc]
    ·cases he
   ·cases he
  ·rename_i s' l hx hlo
   split at he
   ·rename_i h hhi
    split at he
    ·rename_i hc
     simp only[Qb,Qc] at he
     obtain⟨rfl,rfl⟩:=he
     refine Jd rfl ?_ fun hp2 hh=>?_
     ·simp [rdI,Q7 hx,D.hd]
     ·simp only[eff,hx,hlo,hhi]
      rw[if_pos hc]
    ·cases he
   ·cases he
  ·cases he
 case bad=>simp [eff] at he
 case bsn b x=>
  simp only[eff] at he
  split at he
  ·rename_i sz hx
   split at he
   ·rename_i hc
    simp only[Qb,Qc] at he
    obtain⟨rfl,rfl⟩:=he
    refine⟨fun hp=>up hp n (.nst sz [some []] none),rfl,Loc.up (.inr ⟨rfl,fr⟩),by simp [rdI,Q7 hx,D.hd],fun hp2 hh=>?_⟩
    simp only[eff,hx]
    rw[if_pos hc]
   ·cases he
  ·rename_i m lo len hx
   split at he
   ·rename_i sz xs hl
    split at he
    ·rename_i hc
     simp only[Qb,Qc] at he
     obtain⟨rfl,rfl⟩:=he
     refine⟨fun hp=>up (rm hp m) n (.nst sz [some xs] none),rfl,Loc.comp (Loc.up (.inr ⟨rfl,fr⟩)) (Loc.rm (.inl (by simp [muI,Q7 hx,D.hd]))),by simp [rdI,Q7 hx,D.hd,hl],fun hp2 hh=>?_⟩
     simp [rdI,Q7 hx,D.hd] at hh
     simp only[eff,hx,hh,hl]
     rw[if_pos hc]
    ·cases he
   ·cases he
  ·cases he
 case apn b x y=>
  simp only[eff] at he
  split at he
  ·rename_i z j lo k hx hy
   split at he
   ·rename_i sz ys hl
    split at he
    ·rename_i hc
     simp only[Qb,Qc] at he
     obtain⟨rfl,rfl⟩:=he
     refine⟨fun hp=>up (rm hp j) n (.nst sz [some ys] none),rfl,Loc.comp (Loc.up (.inr ⟨rfl,fr⟩)) (Loc.rm (.inl (by simp [muI,Q7 hx,Q7 hy,D.hd]))),by simp [rdI,Q7 hx,Q7 hy,D.hd,hl],fun hp2 hh=>?_⟩
     simp [rdI,Q7 hx,Q7 hy,D.hd] at hh
     simp only[eff,hx,hy,hh,hl]
     rw[if_pos hc]
    ·cases he
   ·cases he
  ·rename_i id lo' len j lo k hx hy
   split at he
   ·rename_i sz' l sz ys hl hl2
    split at he
    ·rename_i hc
     simp only[Qb,Qc] at he
     obtain⟨rfl,rfl⟩:=he
     refine⟨fun hp=>up (rm (rm hp id) j) n (.nst sz (l++[some ys]) none),rfl,Loc.comp (Loc.up (.inr ⟨rfl,fr⟩)) (Loc.comp (Loc.rm (.inl (by simp [muI,Q7 hx,Q7 hy,D.hd]))) (Loc.rm (.inl (by simp [muI,Q7 hx,Q7 hy,D.hd])))),by simp [rdI,Q7 hx,Q7 hy,D.hd,hl,hl2],fun hp2 hh=>?_⟩
     simp [rdI,Q7 hx,Q7 hy,D.hd] at hh
     simp only[eff,hx,hy,hh.1,hh.2,hl,hl2]
     rw[if_pos hc]
    ·cases he
   ·rename_i s' sz ys hl hl2
    split at he
    ·rename_i hc
     simp only[Qb,Qc] at he
     obtain⟨rfl,rfl⟩:=he
     refine⟨fun hp=>up (rm (rm hp id) j) n (.nst sz [some ys] none),rfl,Loc.comp (Loc.up (.inr ⟨rfl,fr⟩)) (Loc.comp (Loc.rm (.inl (by simp [muI,Q7 hx,Q7 hy,D.hd]))) (Loc.rm (.inl (by simp [muI,Q7 hx,Q7 hy,D.hd])))),by simp [rdI,Q7 hx,Q7 hy,D.hd,hl,hl2],fun hp2 hh=>?_⟩
     simp [rdI,Q7 hx,Q7 hy,D.hd] at hh
     simp only[eff,hx,hy,hh.1,hh.2,hl,hl2]
     rw[if_pos hc]
    ·cases he
   ·cases he
  ·cases he
 case tk x=>
  simp only[eff] at he
  cases htk:tkE n sl hp x with
  |none=>
   simp only[htk] at he
   obtain⟨h1,h2,h3⟩:=Qia he
   refine Jd h1 h2 fun hp2 hh=>?_
   have:tkE n sl hp2 x=none:=by
    unfold tkE
    split
    ·rename_i id i off hx
     rw[hh id (by simp [rdI,Q7 hx,D.hd])]
     cases hl:lk hp id with
     |none=>rfl
     |some e=>
      cases e
      case nst=>simp [ldE,hx,hl] at he
      all_goals rfl
    ·rfl
   simp only[eff,this]
   exact h3 hp2 hh
  |some r=>
   simp only[htk,Qb] at he
   subst he
   have ht:=htk
   unfold tkE at ht
   split at ht
   case h_2=>cases ht
   rename_i id i off hx
   split at ht
   case h_2=>cases ht
   rename_i sz l hl
   split at ht
   case h_2=>cases ht
   rename_i xs hli
   split at ht
   case isFalse=>cases ht
   rename_i hc
   simp only[Qb,Qc] at ht
   obtain⟨rfl,rfl⟩:=ht
   refine⟨fun hp=>up (up (up hp id (.nst sz (l.set i none) (some (i,n,xs.length)))) n (.arr sz xs)) (n+1) (.lnk id),rfl,Loc.comp (Loc.up (.inr ⟨rfl,by omega⟩)) (Loc.comp (Loc.up (.inr ⟨rfl,fr⟩)) (Loc.up (.inl (by simp [muI,Q7 hx,D.hd])))),by simp [rdI,Q7 hx,D.hd,hl],fun hp2 hh=>?_⟩
   simp [rdI,Q7 hx,D.hd] at hh
   simp only[eff,tkE,hx,hh,hl,hli]
   rw[if_pos hc]
 case pu a x=>
  simp only[eff] at he
  split at he
  ·rename_i m i off ha
   split at he
   ·rename_i k v hx
    split at he
    ·rename_i u hp1 hst
     simp only[Qi,Qc] at he
     obtain⟨hp2,hf,rfl,rfl⟩:=he
     --the store
     have hsx:=hst
     simp only[stE,ha,hx] at hst
     split at hst
     case h_2=>cases hst
     rename_i sz xs hl
     split at hst
     case h_2=>cases hst
     rename_i e d' hxe hpu
     have hd':d'=.int k v:=by simpa [pur,Xl] using hpu.symm
     subst hd'
     split at hst
     case isFalse=>cases hst
     rename_i hc
     --in either way the entry holds other elements
     have fin:∀ys:List D,hp1=up hp m (.arr sz ys)→(∀hp3,lk hp3 m=some (.arr sz xs)→stE sl hp3 1 a x=some (u,up hp3 m (.arr sz ys)))→∃T,hp2=T hp∧Loc (fun id=>id∈muI sl hp (.pu a x)∨((LOp.pu a x).ck=true∧n≤id∧id<n+64)) T∧
       (∀id∈rdI sl hp (.pu a x),lk hp id≠none)∧∀hp2,(∀id∈rdI sl hp (.pu a x),lk hp2 id=lk hp id)→eff n sl hp2 (.pu a x)=some (u,T hp2):=by
      rintro ys rfl h3
      have hf0:=hf
      unfold Jt at hf
      split at hf
      case h_2=>cases hf
      rename_i id hlk
      split at hf
      case h_2=>cases hf
      rename_i sz1 xs1 sz2 l c m' len hm hn
      rw[Xw,if_pos rfl] at hm
      simp only[Qb,Ent.arr.injEq] at hm
      obtain⟨rfl,rfl⟩:=hm
      split at hf
      case isFalse=>cases hf
      rename_i hcc
      simp only[Qb] at hf
      subst hf
      have hne:id≠m:=fun e=>by rw[e,Xw,if_pos rfl] at hn;cases hn
      rw[Xw,if_neg (by omega)] at hlk
      rw[Xw,if_neg hne] at hn
      have hr:rdI sl hp (.pu a x)=[m,m+1,id]:=by simp only[rdI,puI,Q7 ha,hlk]
      have hmu:muI sl hp (.pu a x)=[m,m+1,id]:=by simp only[muI,puI,Q7 ha,hlk]
      refine⟨fun hp=>up (rm (up hp m (.arr sz ys)) m) id (.nst sz (l.set c (some ys)) none),rfl,Loc.comp (Loc.up (.inl (by rw[hmu];simp))) (Loc.comp (Loc.rm (.inl (by rw[hmu];simp))) (Loc.up (.inl (by rw[hmu];simp)))),fun j hj=>?_,fun hp3 hh=>?_⟩
      ·rw[hr] at hj
       simp only[Qh,List.not_mem_nil,or_false] at hj
       rcases hj with rfl|rfl|rfl
       ·rw[hl];simp
       ·rw[hlk];simp
       ·rw[hn];simp
      ·rw[hr] at hh
       have e1:lk hp3 m=some (.arr sz xs):=by rw[hh m (by simp),hl]
       have e2:lk hp3 (m+1)=some (.lnk id):=by rw[hh (m+1) (by simp),hlk]
       have e3:lk hp3 id=some (.nst sz2 l (some (c,m',len))):=by rw[hh id (by simp),hn]
       have e4:Jt (up hp3 m (.arr sz ys)) m=some (up (rm (up hp3 m (.arr sz ys)) m) id (.nst sz (l.set c (some ys)) none)):=by
        simp only[Jt,Xw,if_neg (show ¬m+1=m by omega),e2,if_true,if_neg hne,e3]
        rw[if_pos hcc]
       simp only[eff,ha,hx,h3 hp3 e1,e4,Option.map_some]
     simp only[D.ids,D.ids0,Q9] at hst hc
     split at hst
     ·rename_i hms
      split at hst
      case isFalse=>cases hst
      rename_i hok
      simp only[Qb,Qc] at hst
      obtain⟨rfl,rfl⟩:=hst
      exact fin _ rfl fun hp3 e=>by
       simp only[stE,ha,hx,e,hxe,pur,Xl,D.ids,D.ids0,Q9]
       rw[if_pos hc,if_pos hms,if_pos hok]
     ·rename_i hms
      split at hst
      case isFalse=>cases hst
      rename_i hok
      simp only[Qb,Qc] at hst
      obtain⟨rfl,rfl⟩:=hst
      exact fin _ rfl fun hp3 e=>by
       simp only[stE,ha,hx,e,hxe,pur,Xl,D.ids,D.ids0,Q9]
       rw[if_pos hc,if_neg hms,if_pos hok]
    ·cases he
   ·cases he
  ·rename_i hno
   simp only[stE] at he
   split at he
   ·rename_i id off d0 ha hx
    split at he
    ·rename_i cs l hl hcl
     split at he
     ·rename_i hc
      simp only[Qb,Qc] at he
      obtain⟨rfl,rfl⟩:=he
      refine⟨fun hp=>up hp id (.box (XQ cs off l)),rfl,Loc.up (.inl (by simp [muI,puI,Q7 ha])),by simp [rdI,puI,Q7 ha,hl],fun hp2 hh=>?_⟩
      simp [rdI,puI,Q7 ha] at hh
      simp only[eff,stE,ha,hx,hh,hl,hcl]
      rw[if_pos hc]
     ·cases he
    ·cases he
   ·rename_i id i off d0 ha hx
    exact (hno _ _ _ ha).elim
   ·cases he
 case mkM m=>exact QbV rfl (g:=some (.mh n,.mp m [])) (fun _=>rfl) rfl he
 case lkM m x k=>
  simp only[eff] at he
  split at he
  case h_2=>cases he
  rename_i id ks hx hk
  split at he
  case h_2=>cases he
  rename_i m' es hl
  split at he
  case isFalse=>cases he
  rename_i hc
  simp only[Qb,Qc] at he
  obtain⟨rfl,rfl⟩:=he
  refine Jd rfl ?_ fun hp2 h=>?_
  ·simp [rdI,Q7 hx,D.hd,hl]
  ·simp [rdI,Q7 hx,D.hd] at h
   simp only[eff,hx,hk,h,hl]
   rw[if_pos hc]
 case upM m x k v=>
  simp only[eff] at he
  split at he
  case h_2=>cases he
  rename_i id ks y hx hk hv
  split at he
  case h_2=>cases he
  rename_i m' es hl
  split at he
  case isFalse=>cases he
  rename_i hc
  simp only[Qb,Qc] at he
  obtain⟨rfl,rfl⟩:=he
  refine⟨fun hp=>up hp id (.mp m (YH es ks y)),rfl,Loc.up (.inl (by simp [muI,Q7 hx,D.hd])),by simp [rdI,Q7 hx,D.hd,hl],fun hp2 h=>?_⟩
  simp [rdI,Q7 hx,D.hd] at h
  simp only[eff,hx,hk,hv,h,hl]
  rw[if_pos hc]
 case rgM m x=>
  simp only[eff] at he
  split at he
  case h_2=>cases he
  rename_i id hx
  split at he
  case h_2=>cases he
  rename_i m' es hl
  split at he
  case isFalse=>cases he
  rename_i hc
  simp only[Qb,Qc] at he
  obtain⟨rfl,rfl⟩:=he
  refine⟨fun hp=>up (rm hp id) n (.it m es []),rfl,Loc.comp (Loc.up (.inr ⟨rfl,fr⟩)) (Loc.rm (.inl (by simp [muI,Q7 hx,D.hd]))),by simp [rdI,Q7 hx,D.hd,hl],fun hp2 h=>?_⟩
  simp [rdI,Q7 hx,D.hd] at h
  simp only[eff,hx,h,hl]
  rw[if_pos hc]
 case nxM x=>simp [eff] at he
 case enM x=>
  simp only[eff] at he
  split at he
  case h_2=>cases he
  rename_i id off hx
  split at he
  case h_2=>cases he
  rename_i m es seen hl
  split at he
  case h_2=>cases he
  rename_i j hj
  split at he
  case h_2=>cases he
  rename_i k v hjv
  split at he
  case isFalse=>cases he
  rename_i hc
  simp only[Qb,Qc] at he
  obtain⟨rfl,rfl⟩:=he
  refine Jd rfl ?_ fun hp2 h=>?_
  ·simp [rdI,Q7 hx,D.hd,hl]
  ·simp [rdI,Q7 hx,D.hd] at h
   simp only[eff,hx,h,hl,hj,hjv]
   rw[if_pos hc]
 case clr s x=>
  simp only[eff] at he
  split at he
  ·rename_i sz' hx
   simp only[Qb,Qc] at he
   obtain⟨rfl,rfl⟩:=he
   refine Jd rfl ?_ fun hp2 h=>?_
   ·simp [rdI,Q7 hx,D.hd]
   ·simp [eff,hx]
  ·rename_i id lo len hx
   split at he
   ·rename_i sz' xs hl
    split at he
    ·rename_i hc
     simp only[Qb,Qc] at he
     obtain⟨rfl,rfl⟩:=he
     refine⟨fun l=>up l id (.arr s (xs.take lo)),rfl,Loc.up (.inl (by simp [muI,Q7 hx,D.hd])),?_,fun hp2 h=>?_⟩
     ·simp [rdI,Q7 hx,D.hd,hl]
     ·simp [rdI,Q7 hx,D.hd] at h
      simp only[eff,hx,h,hl]
      rw[if_pos hc]
    ·cases he
   ·cases he
  ·cases he
 case appz s b z x l=>
  refine QbV rfl (g:=match ev sl x,(ev sl l).bind asI with|some (.nl _),some m=>if 0<m∧Ya m.toNat b then some (.sl n 0 m.toNat,.arr s (List.replicate m.toNat z)) else none|_,_=>none) (fun hp=>?_) rfl he
  simp only[eff]
  split
  ·rename_i h1 h2
   simp only[h1,h2]
   split<;>rfl
  ·rename_i h1
   split
   ·rename_i h2 h3
    exact absurd h3 (fun h3=>h1 _ _ h2 h3)
   ·rfl
 case iad s x i=>
  simp only[eff] at he
  split at he
  ·rename_i id lo len j hx hj
   split at he
   ·rename_i hc
    simp only[Qb,Qc] at he
    obtain⟨rfl,rfl⟩:=he
    have hp0:lk hp id≠none:=Qh7 hc.2.2
    refine Jd rfl ?_ fun hp2 hh=>?_
    ·simp [rdI,Q7 hx,D.hd,hp0]
    ·simp [rdI,Q7 hx,D.hd] at hh
     simp only[eff,hx,hj]
     rw[if_pos ⟨hc.1,hc.2.1,by rw[Qh4 hh];exact hc.2.2⟩]
   ·cases he
  ·rename_i s' xs j hx hj
   split at he
   ·rename_i hc
    split at he
    ·rename_i e hxe
     simp only[Qb,Qc] at he
     obtain⟨rfl,rfl⟩:=he
     refine Jd rfl ?_ fun hp2 hh=>?_
     ·simp [rdI,Q7 hx,D.hd]
     ·simp only[eff,hx,hj]
      rw[if_pos hc]
      simp [hxe]
    ·cases he
   ·cases he
  ·cases he
 case store m a x=>
  simp only[eff,stE] at he
  split at he
  ·rename_i id off d0 ha hx
   split at he
   ·rename_i cs l hl hcl
    split at he
    ·rename_i hc
     simp only[Qb,Qc] at he
     obtain⟨rfl,rfl⟩:=he
     refine⟨fun hp=>up hp id (.box (XQ cs off l)),rfl,Loc.up (.inl (by simp [muI,Q7 ha])),by simp [rdI,Q7 ha,hl],fun hp2 hh=>?_⟩
     simp [rdI,Q7 ha] at hh
     simp only[eff,stE,ha,hx,hh,hl,hcl]
     rw[if_pos hc]
    ·cases he
   ·cases he
  ·rename_i id i off d0 ha hx
   split at he
   ·rename_i sz xs hl
    split at he
    ·rename_i e d' hxe hpu
     split at he
     ·rename_i hc
      have hids:∀j∈d0.ids,j∈muI sl hp (.store m a x):=fun j hj=>by simp [muI,Q7 ha,Q7 hx,hj]
      have hid:id∈muI sl hp (.store m a x):=by simp [muI,Q7 ha]
      have hpre:∀j∈rdI sl hp (.store m a x),lk hp j≠none:=by
       intro j hj
       simp only[rdI,Q7 ha,Q7 hx,Qh] at hj
       rcases hj with rfl|hj
       ·simp [hl]
       ·exact Qh5 hpu j hj
      have hagr:∀hp2,(∀j∈rdI sl hp (.store m a x),lk hp2 j=lk hp j)→lk hp2 id=some (.arr sz xs)∧pur hp2 d0=some d':=by
       intro hp2 hh
       simp only[rdI,Q7 ha,Q7 hx] at hh
       exact⟨by rw[hh id (by simp),hl],by rw[Qh1 fun j hj=>hh j (by simp [hj])];exact hpu⟩
      split at he
      ·rename_i hms
       split at he
       ·rename_i hok
        simp only[Qb,Qc] at he
        obtain⟨rfl,rfl⟩:=he
        refine⟨fun hp=>up (Q9 d0.ids hp) id (.arr sz (xs.set i d')),rfl,Loc.comp (Loc.up (.inl hid)) (Loc.freeze fun j hj=>.inl (hids j hj)),hpre,fun hp2 hh=>?_⟩
        obtain⟨h1,h2⟩:=hagr hp2 hh
        simp only[eff,stE,ha,hx,h1,h2,hxe]
        rw[if_pos hc,if_pos hms,if_pos hok]
       ·cases he
      ·rename_i hms
       split at he
       ·rename_i hok
        simp only[Qb,Qc] at he
        obtain⟨rfl,rfl⟩:=he
        refine⟨fun hp=>up (Q9 d0.ids hp) id (.arr sz (xs.set i (.agg (XQ e.cells off d'.cells)))),rfl,Loc.comp (Loc.up (.inl hid)) (Loc.freeze fun j hj=>.inl (hids j hj)),hpre,fun hp2 hh=>?_⟩
        obtain⟨h1,h2⟩:=hagr hp2 hh
        simp only[eff,stE,ha,hx,h1,h2,hxe]
        rw[if_pos hc,if_neg hms,if_pos hok]
       ·cases he
     ·cases he
    ·cases he
   ·cases he
  ·cases he
 case cpy s x y=>
  simp only[eff] at he
  split at he
  case h_2=>cases he
  rename_i id lo len ys hx hy
  cases hy0:ev sl y with
  |none=>rw[hy0] at hy;cases hy
  |some dy=>
  rw[hy0,Option.bind_some] at hy
  split at he
  case h_2=>cases he
  rename_i sz' xs hl
  split at he
  case isFalse=>cases he
  rename_i hc
  simp only[Qb,Qc] at he
  obtain⟨rfl,rfl⟩:=he
  have hid:id∈muI sl hp (.cpy s x y):=by simp [muI,Q7 hx,D.hd]
  have hr:rdI sl hp (.cpy s x y)=id::dy.hd:=by simp only[rdI,Q7 hx,Q7 hy0];rfl
  refine⟨fun hp=>up hp id (.arr s (XQ xs lo (ys.take (min ys.length len)))),rfl,Loc.up (.inl hid),fun j hj=>?_,fun hp2 hh=>?_⟩
  ·rw[hr,Qh] at hj
   rcases hj with rfl|hj
   ·simp [hl]
   ·exact QeZ hy j hj
  ·rw[hr] at hh
   have h1:lk hp2 id=some (.arr sz' xs):=by rw[hh id (by simp),hl]
   have h2:rdS hp2 s dy=some ys:=by rw[QeW fun j hj=>hh j (by simp [hj]),hy]
   simp only[eff,hx,hy0,Option.bind_some,h1,h2]
   rw[if_pos hc]
 case app s b x y=>
  simp only[eff] at he
  split at he
  ·rename_i z ys hx hy
   cases hy0:ev sl y with
   |none=>rw[hy0] at hy;cases hy
   |some dy=>
   rw[hy0,Option.bind_some] at hy
   split at he
   ·rename_i hc
    simp only[Qb,Qc] at he
    obtain⟨rfl,rfl⟩:=he
    refine⟨fun hp=>up hp n (.arr s ys),rfl,Loc.up (.inr ⟨rfl,fr⟩),?_,fun hp2 hh=>?_⟩
    ·simp only[rdI,Q7 hx,Q7 hy0];simpa [D.hd] using QeZ hy
    ·simp only[rdI,Q7 hx,Q7 hy0] at hh
     have:rdS hp2 s dy=some ys:=by rw[QeW fun j hj=>hh j (by simp [hj]),hy]
     simp only[eff,hx,hy0,Option.bind_some,this]
     rw[if_pos hc]
   ·cases he
  ·rename_i id lo len ys hx hy
   cases hy0:ev sl y with
   |none=>rw[hy0] at hy;cases hy
   |some dy=>
   rw[hy0,Option.bind_some] at hy
   split at he
   ·rename_i sz' xs hl
    have hid:id∈muI sl hp (.app s b x y):=by simp [muI,Q7 hx,D.hd]
    have hr:rdI sl hp (.app s b x y)=id::dy.hd:=by simp only[rdI,Q7 hx,Q7 hy0];rfl
    have hpre:∀j∈rdI sl hp (.app s b x y),lk hp j≠none:=by
     intro j hj
     rw[hr,Qh] at hj
     rcases hj with rfl|hj
     ·simp [hl]
     ·exact QeZ hy j hj
    have hagr:∀hp2,(∀j∈rdI sl hp (.app s b x y),lk hp2 j=lk hp j)→lk hp2 id=some (.arr sz' xs)∧rdS hp2 s dy=some ys:=by
     intro hp2 hh
     rw[hr] at hh
     exact⟨by rw[hh id (by simp),hl],by rw[QeW fun j hj=>hh j (by simp [hj]),hy]⟩
    split at he
    ·rename_i hc
     split at he
     ·rename_i hlen
      simp only[Qb,Qc] at he
      obtain⟨rfl,rfl⟩:=he
      refine⟨fun hp=>up (rm hp id) n (.arr s (xs++ys)),rfl,Loc.comp (Loc.up (.inr ⟨rfl,fr⟩)) (Loc.rm (.inl hid)),hpre,fun hp2 hh=>?_⟩
      obtain⟨h1,h2⟩:=hagr hp2 hh
      simp only[eff,hx,hy0,Option.bind_some,h1,h2]
      rw[if_pos hc,if_pos hlen]
     ·rename_i hlen
      split at he
      ·rename_i hle
       simp only[Qb,Qc] at he
       obtain⟨rfl,rfl⟩:=he
       refine⟨fun hp=>up (rm hp id) n (.arr s (xs.take len++ys)),rfl,Loc.comp (Loc.up (.inr ⟨rfl,fr⟩)) (Loc.rm (.inl hid)),hpre,fun hp2 hh=>?_⟩
       obtain⟨h1,h2⟩:=hagr hp2 hh
       simp only[eff,hx,hy0,Option.bind_some,h1,h2]
       rw[if_pos hc,if_neg hlen,if_pos hle]
      ·cases he
    ·cases he
   ·cases he
  ·cases he
 case buildSl s b z m ps=>
  simp only[eff] at he
  split at he
  ·rename_i hf
   simp only[Qi] at he
   obtain⟨⟨es,f⟩,hb,hh⟩:=he
   simp only[Qc] at hh
   obtain⟨rfl,rfl⟩:=hh
   obtain⟨h1,h2⟩:=Qh9 hb
   refine⟨fun hp=>up (Q9 f hp) n (.arr s es),rfl,Loc.comp (Loc.up (.inr ⟨rfl,fr⟩)) (Loc.freeze fun j hj=>.inl (by rw[h1] at hj;exact hj)),h2,fun hp2 hh=>?_⟩
   simp only[eff]
   rw[if_pos hf,Qh8 hh,hb]
   rfl
  ·cases he
 case call|callv|callm=>simp [eff] at he
 all_goals
  refine Qor (fun hp=>?_) rfl he
  simp only[eff]
  repeat' split
  all_goals first
   |rfl
   |(simp only[Option.map_map];rfl)
   |(simp;done)
end
end Go.Am
namespace Go.Am
open Go
section
variable {hp hp2 hp':qHp} {sl sl2:qSl} {d:D} {n:Nat}
theorem Qib:∀{ps:List (Nat×Nat×X)}{cs:List D},(∀p∈ps,ev sl2 p.2.2=ev sl p.2.2)→Zc sl2 ps cs=Zc sl ps cs
 |[],_,_=>rfl
 |(a,b,x)::ps,cs,h=>by
  simp only[Zc,h (a,b,x) (by simp)]
  split
  ·split
   ·exact Qib fun p hp=>h p (Qu _ hp)
   ·rfl
  ·rfl
theorem Qic{sz:Nat}:∀{ps:List (Nat×X)}{es:List D},(∀p∈ps,ev sl2 p.2=ev sl p.2)→Yn sl2 hp sz ps es=Yn sl hp sz ps es
 |[],_,_=>rfl
 |(a,x)::ps,es,h=>by
  simp only[Yn,h (a,x) (by simp)]
  split
  ·split
   ·split
    ·rw[Qic fun p hp=>h p (Qu _ hp)]
    ·rfl
   ·rfl
  ·rfl
theorem Qid{d0:Int}{x:Option X}(h:∀y∈x.toList,ev sl2 y=ev sl y):Y6 sl2 d0 x=Y6 sl d0 x:=by
 cases x with
 |none=>rfl
 |some y=>simp only[Y6,h y (by simp)]
theorem Qot{op:LOp}(h:∀x∈op.xs,ev sl2 x=ev sl x):eff n sl2 hp op=eff n sl hp op:=by
 cases op<;>simp only[LOp.xs,Qh,List.not_mem_nil,or_false,QF,forall_eq,Qd,Qv,forall_exists_index,and_imp,forall_apply_eq_imp_iff₂] at h
 case build z ps=>simp only[eff,Qib (fun p hp=>h p hp)]
 case buildSl s b z m ps=>simp only[eff,Qic (fun p hp=>h p hp)]
 case slc s x lo hi=>simp only[eff,h.1,Qid (fun y hy=>h.2 y (.inl hy)),Qid (fun y hy=>h.2 y (.inr hy))]
 case mkf f l=>simp only[eff,Jc h]
 case mn l=>simp only[eff,Jc h]
 case sf f l=>simp only[eff,Jc h]
 case mx l=>simp only[eff,Jc h]
 case call=>simp only[eff]
 case callv=>simp only[eff]
 case load=>simp only[eff,ldE,h]
 case tk=>simp only[eff,tkE,ldE,h]
 case store=>simp only[eff,stE,h]
 case pu=>simp only[eff,stE,h]
 all_goals first|rfl|simp only[eff,h]
theorem QaC:n≤(QW n d).2.2∧∀p∈(QW n d).2.1,n≤p.1∧p.1<(QW n d).2.2:=by
 cases d<;>simp [QW]
theorem J4{f:Nat→D→D×qHp×Nat}(hf:∀n d,n≤(f n d).2.2∧∀p∈(f n d).2.1,n≤p.1∧p.1<(f n d).2.2):
  ∀{ds:List D}{n:Nat},n≤(Xa f n ds).2.2∧∀p∈(Xa f n ds).2.1,n≤p.1∧p.1<(Xa f n ds).2.2
 |[],n=>by simp [Xa]
 |d::ds,n=>by
  obtain⟨h1,h2⟩:=hf n d
  obtain⟨h3,h4⟩:=J4 hf (ds:=ds) (n:=(f n d).2.2)
  simp only[Xa]
  refine⟨Qt h1 h3,fun p hp=>?_⟩
  rcases Qd.1 hp with hp|hp
  ·exact⟨(h2 p hp).1,QI (h2 p hp).2 h3⟩
  ·exact⟨Qt h1 (h4 p hp).1,(h4 p hp).2⟩
theorem Qou:n≤(YN n d).2.2∧∀p∈(YN n d).2.1,n≤p.1∧p.1<(YN n d).2.2:=by
 cases d<;>simp only[YN]
 case box cs=>
  obtain⟨h1,h2⟩:=J4 (f:=QW) (fun n d=>QaC) (ds:=cs) (n:=n+1)
  refine⟨by omega,fun p hp=>?_⟩
  rcases Qh.1 hp with rfl|hp
  ·simp only;omega
  ·have:=h2 p hp;omega
 all_goals exact QaC
theorem Qie:n≤(Xo n d).2.2∧∀p∈(Xo n d).2.1,n≤p.1∧p.1<(Xo n d).2.2:=by
 cases d<;>simp only[Xo]
 case agg cs=>exact J4 (fun n d=>QaC)
 case clb f cs=>exact J4 (fun n d=>Qou)
 case box cs=>
  obtain⟨h1,h2⟩:=J4 (f:=QW) (fun n d=>QaC) (ds:=cs) (n:=n+1)
  refine⟨by omega,fun p hp=>?_⟩
  rcases Qh.1 hp with rfl|hp
  ·simp only;omega
  ·have:=h2 p hp;omega
 all_goals exact QaC
theorem adopt_rng:n≤(XP n d).2.2∧∀p∈(XP n d).2.1,n≤p.1∧p.1<(XP n d).2.2:=by
 cases d<;>simp only[XP]
 case tup cs=>exact J4 (fun n d=>Qie)
 all_goals exact Qie
theorem Qif{e:D}(h:XF hp d=some (e,hp')):∃T,hp'=T hp∧Loc (fun id=>id∈d.ids) T∧(∀(l:qHp) id e,lk (T l) id=some e→lk l id=some e)∧(∀id∈d.rch hp,lk hp id≠none)∧
  ∀hp2,(∀id∈d.ids,lk hp2 id=lk hp id)→XF hp2 d=some (e,T hp2):=by
 cases d<;>simp only[XF,reduceCtorEq] at h
 case sl id lo len=>
  have hid:id∈D.ids (.sl id lo len):=by simp [D.ids,D.ids0]
  have hpre:∀e,lk hp id=some e→∀i∈D.rch hp (.sl id lo len),lk hp i≠none:=by
   intro e he i hi
   simp only[D.rch,D.rch1,D.ids0,Qm] at hi
   subst hi
   rw[he];simp
  have rmc:∀(l:qHp) i e,lk (rm l id) i=some e→lk l i=some e:=by
   intro l i e he
   rw[Yo] at he
   split at he
   ·cases he
   ·exact he
  split at h
  ·rename_i sz xs hl
   split at h
   case isFalse=>cases h
   rename_i hlo
   split at h
   ·rename_i hlen
    simp only[Qb,Qc] at h
    obtain⟨rfl,rfl⟩:=h
    exact⟨fun l=>rm l id,rfl,Loc.rm hid,rmc,hpre _ hl,fun hp2 hh=>by simp only[XF,hh id hid,hl,hlo,hlen,if_true]⟩
   ·rename_i hlen
    split at h
    ·rename_i hle
     simp only[Qb,Qc] at h
     obtain⟨rfl,rfl⟩:=h
     exact⟨fun l=>rm l id,rfl,Loc.rm hid,rmc,hpre _ hl,fun hp2 hh=>by simp only[XF,hh id hid,hl,hlo,if_true];rw[if_neg hlen,if_pos hle]⟩
    ·cases h
  ·rename_i sz xs hl
   split at h
   ·rename_i hc
    simp only[Qb,Qc] at h
    obtain⟨rfl,rfl⟩:=h
    exact⟨fun l=>l,rfl,Loc.id,fun _ _ _ h=>h,hpre _ hl,fun hp2 hh=>by simp only[XF,hh id hid,hl];rw[if_pos hc]⟩
   ·rename_i hc
    split at h
    ·rename_i hle
     simp only[Qb,Qc] at h
     obtain⟨rfl,rfl⟩:=h
     exact⟨fun l=>l,rfl,Loc.id,fun _ _ _ h=>h,hpre _ hl,fun hp2 hh=>by simp only[XF,hh id hid,hl];rw[if_neg hc,if_pos hle]⟩
    ·cases h
  ·rename_i sz l hl
   split at h
   case isFalse=>cases h
   rename_i hc
   simp only[Qi,Qc] at h
   obtain⟨es,hes,rfl,rfl⟩:=h
   exact⟨fun l=>rm l id,rfl,Loc.rm hid,rmc,hpre _ hl,fun hp2 hh=>by simp only[XF,hh id hid,hl];rw[if_pos hc,hes];rfl⟩
  ·cases h
 case mh id=>
  split at h
  ·rename_i m es hl
   simp only[Qb,Qc] at h
   obtain⟨rfl,rfl⟩:=h
   have hid:id∈D.ids (.mh id):=by simp [D.ids,D.ids0]
   refine⟨fun l=>rm l id,rfl,Loc.rm hid,fun l i e he=>?_,fun i hi=>?_,fun hp2 hh=>by simp only[XF,hh id hid,hl]⟩
   ·rw[Yo] at he
    split at he
    ·cases he
    ·exact he
   ·simp only[D.rch,D.rch1,D.ids0,Qm] at hi
    subst hi
    rw[hl];simp
  ·cases h
 case clo f cs=>
  split at h
  ·rename_i ho
   simp only[Qb,Qc] at h
   obtain⟨rfl,rfl⟩:=h
   refine⟨fun l=>l,rfl,Loc.id,fun _ _ _ h=>h,?_,fun hp2 _=>by simp only[XF,ho,if_true]⟩
   intro id hi
   simp only[D.rch,Qr] at hi
   obtain⟨c,hc,hi⟩:=hi
   have:=Qs.1 ho c hc
   cases c<;>simp [YS,D.rch1,D.ids0] at this hi
  ·cases h
 all_goals
  simp only[Qb,Qc] at h
  obtain⟨rfl,rfl⟩:=h
  exact⟨fun l=>l,rfl,Loc.id,fun _ _ _ h=>h,by simp [D.rch,D.rch1,D.ids0],fun hp2 _=>rfl⟩
theorem Qov{e:D}(hn:∀cs,d≠.agg cs)(h:ZJ hp d=some (e,hp')):∃T,hp'=T hp∧Loc (fun id=>id∈d.ids) T∧(∀(l:qHp) id e,lk (T l) id=some e→lk l id=some e)∧(∀id∈d.rch hp,lk hp id≠none)∧
  ∀hp2,(∀id∈d.ids,lk hp2 id=lk hp id)→ZJ hp2 d=some (e,T hp2):=by
 cases d<;>simp only[ZJ] at h ⊢
 case nl s=>
  simp only[Qb,Qc] at h
  obtain⟨rfl,rfl⟩:=h
  exact⟨fun l=>l,rfl,Loc.id,fun _ _ _ h=>h,by simp [D.rch,D.rch1,D.ids0],fun hp2 _=>rfl⟩
 case clo=>cases h
 case agg cs=>exact absurd rfl (hn cs)
 all_goals exact Qif h
def D.nPc:D→Bool
 | .pt ..| .clo ..=>false
 |_=>true
theorem Qe0{e:D}(h:ZJ hp d=some (e,hp')):D.rch hp d=d.ids∧d.nPc=true:=by
 cases d<;>simp only[ZJ,XF,reduceCtorEq] at h<;>simp [D.rch,D.rch1,D.ids,D.ids0,D.nPc]
theorem Loc.mono{S S':Nat→Prop}{T:qHp→qHp}(h:Loc S T)(hs:∀id,S id→S' id):Loc S' T:=
 ⟨fun l id hn=>h.out l id fun hh=>hn (hs id hh),fun l m he id hi=>by
  by_cases hS:S id
  ·exact h.same l m (fun i hi=>he i (hs i hi)) id hS
  ·rw[h.out l id hS,h.out m id hS];exact he id hi⟩
theorem Qe1:∀{md:List Md}{ds:List D},∀d∈Xv md ds,d∈ds
 |[],ds,d,h=>by cases ds<;>simpa [Xv] using h
 |m::md,[],d,h=>by cases m<;>simp [Xv] at h
 |m::md,c::ds,d,h=>by
  cases m
  case rd=>
   rcases Qh.1 h with rfl|h
   ·simp
   ·exact Qu _ (Qe1 d h)
  all_goals exact Qu _ (Qe1 (md:=md) d h)
theorem Qe2:∀{md:List Md}{es:List D},(∀d∈Xv md es,∀id∈d.rch hp,lk hp2 id=lk hp id)→XL hp2 md es=XL hp md es
 |[],es,h=>by
  have e1:∀hp,XL hp [] es=QU (Xz hp) es:=fun hp=>by cases es<;>rfl
  have e2:Xv [] es=es:=by cases es<;>rfl
  rw[e1,e1]
  rw[e2] at h
  exact Jc fun d hd=>Qh3 (h d hd)
 |m::md,[],_=>by cases m<;>rfl
 |m::md,e::es,h=>by
  by_cases hm:m=.rd
  ·subst hm
   simp only[XL]
   rw[Qh3 (h e (by simp [Xv])),Qe2 (fun d hd=>h d (by simp only[Xv];exact Qu _ hd))]
  ·rw[Qc2 hm,Qc2 hm,Qe2 (fun d hd=>h d (by rw[QbT hm];exact hd))]
theorem Qig{e:D}(hs:Sub hp2 hp)(h:XE hp2 d=some e):d.rch1 hp=d.rch1 hp2:=by
 cases d<;>simp only[D.rch1]
 case pt id off=>
  simp only[XE] at h
  split at h
  ·rename_i cs hcs
   simp only[hs _ _ hcs,hcs]
  ·cases h
theorem Qow{e:D}(hs:Sub hp2 hp)(h:Xz hp2 d=some e):d.rch hp=d.rch hp2:=by
 cases d<;>simp only[D.rch]<;>simp only[Xz] at h
 case clo f cs=>
  simp only[Qi] at h
  obtain⟨l,hl,_⟩:=h
  have:∀c∈cs,D.rch1 hp c=D.rch1 hp2 c:=fun c hc=>let ⟨e,he⟩:=Qc6 hl c hc;Qig hs he
  clear hl
  induction cs with
  |nil=>rfl
  |cons c cs ih=>rw[List.flatMap_cons,List.flatMap_cons,this c (by simp),ih fun c hc=>this c (Qu _ hc)]
 all_goals exact Qig hs h
structure Frm(f:Hp→D→Option (D×Hp))(r:Hp→D→List Nat):Prop where
 fr:∀{hp hp':Hp}{d e:D},f hp d=some (e,hp')→∃T:Hp→Hp,hp'=T hp∧Loc (fun id=>id∈r hp d) T∧(∀(l:Hp) id e,lk (T l) id=some e→lk l id=some e)∧(∀id∈r hp d,lk hp id≠none)∧
  ∀hp2,(∀id∈r hp d,lk hp2 id=lk hp id)→r hp2 d=r hp d∧f hp2 d=some (e,T hp2)
theorem Qc7{f:Hp→D→Option (D×Hp)}{r:Hp→D→List Nat}(hf:Frm f r):∀{ds es:List D}{hp hp':Hp},XO f hp ds=some (es,hp')→∃T:Hp→Hp,hp'=T hp∧Loc (fun id=>id∈ds.flatMap (r hp)) T∧(∀(l:Hp) id e,lk (T l) id=some e→lk l id=some e)∧
  (∀id∈ds.flatMap (r hp),lk hp id≠none)∧∀hp2,(∀id∈ds.flatMap (r hp),lk hp2 id=lk hp id)→ds.flatMap (r hp2)=ds.flatMap (r hp)∧XO f hp2 ds=some (es,T hp2)
 |[],es,hp,hp',h=>by
  simp only[XO,Qb,Qc] at h
  obtain⟨rfl,rfl⟩:=h
  exact⟨fun l=>l,rfl,Loc.id,fun _ _ _ h=>h,by simp,fun hp2 _=>⟨rfl,rfl⟩⟩
 |d::ds,es,hp,hp',h=>by
  simp only[XO] at h
  split at h
  case h_2=>cases h
  rename_i e hp1 h1
  split at h
  case h_2=>cases h
  rename_i l hp3 h2
  simp only[Qb,Qc] at h
  obtain⟨rfl,rfl⟩:=h
  obtain⟨T1,rfl,L1,R1,P1,G1⟩:=hf.fr h1
  obtain⟨T2,rfl,L2,R2,P2,G2⟩:=Qc7 hf h2
  have ag:∀id∈ds.flatMap (r (T1 hp)),lk hp id=lk (T1 hp) id:=fun id hi=>by
   cases hl:lk (T1 hp) id with
   |none=>exact absurd hl (P2 id hi)
   |some e=>exact R1 _ _ _ hl
  have er:ds.flatMap (r hp)=ds.flatMap (r (T1 hp)):=(G2 hp ag).1
  simp only[List.flatMap_cons]
  refine⟨fun l=>T2 (T1 l),rfl,Loc.comp (L2.mono fun id hi=>Qd.2 (.inr (by rw[er];exact hi))) (L1.mono fun id hi=>Qd.2 (.inl hi)),fun l id e he=>R1 _ _ _ (R2 _ _ _ he),fun id hi=>?_,fun hp2 hh=>?_⟩
  ·rcases Qd.1 hi with hi|hi
   ·exact P1 id hi
   ·rw[er] at hi
    rw[ag id hi];exact P2 id hi
  ·obtain⟨e1,g1⟩:=G1 hp2 fun id hi=>hh id (Qd.2 (.inl hi))
   have hr:∀id∈ds.flatMap (r (T1 hp)),lk hp2 id=lk hp id:=fun id hi=>hh id (Qd.2 (.inr (by rw[er];exact hi)))
   obtain⟨_,g2⟩:=G2 (T1 hp2) fun id hi=>by
    by_cases hid:id∈r hp d
    ·exact L1.same _ _ (fun i hi=>hh i (Qd.2 (.inl hi))) id hid
    ·rw[L1.out _ id hid,L1.out _ id hid];exact hr id hi
   have e3:=(G2 hp2 fun id hi=>by rw[hr id hi,ag id hi]).1
   exact⟨by rw[e1,e3,er],by simp only[XO,g1,g2]⟩
theorem frm_expel0:Frm XF (fun _ d=>d.ids0):=⟨fun {hp hp' d e} h=>by
 have e1:d.ids=d.ids0:=by cases d<;>first|rfl|simp [XF] at h
 obtain⟨T,h1,h2,h3,h4,h5⟩:=Qif h
 rw[e1] at h2 h5
 exact⟨T,h1,h2,h3,fun id hi=>h4 id (by cases d<;>simp [D.ids0,D.rch,D.rch1] at hi ⊢<;>exact hi),fun hp2 hh=>⟨rfl,h5 hp2 hh⟩⟩⟩
theorem Qox:Frm JQ (fun _ d=>d.ids0):=⟨fun {hp hp' d e} h=>by
 cases d
 case nl sz=>
  simp only[JQ,Qb,Qc] at h
  obtain⟨rfl,rfl⟩:=h
  exact⟨fun l=>l,rfl,Loc.id,fun _ _ _ h=>h,by simp [D.ids0],fun hp2 _=>⟨rfl,rfl⟩⟩
 all_goals exact frm_expel0.fr h⟩
theorem Qih{f:Hp→D→Option (D×Hp)}(hf:Frm f (fun _ d=>d.ids0)){hp hp':Hp}{id off:Nat}{e:D}{g:Hp→D→Option (D×Hp)}(hg:∀hp,g hp (.pt id off)=match lk hp id with|some (.box cs)=>if off=0 then (XO f (rm hp id) cs).map fun (l,hp)=>(.box l,hp) else none|_=>none)
  (h:g hp (.pt id off)=some (e,hp')):∃T:Hp→Hp,hp'=T hp∧Loc (fun i=>i∈D.rch1 hp (.pt id off)) T∧(∀(l:Hp) i e,lk (T l) i=some e→lk l i=some e)∧(∀i∈D.rch1 hp (.pt id off),lk hp i≠none)∧
  ∀hp2,(∀i∈D.rch1 hp (.pt id off),lk hp2 i=lk hp i)→D.rch1 hp2 (.pt id off)=D.rch1 hp (.pt id off)∧g hp2 (.pt id off)=some (e,T hp2):=by
 rw[hg] at h
 split at h
 case h_2=>cases h
 rename_i cs hl
 split at h
 case isFalse=>cases h
 rename_i h0
 simp only[Qi] at h
 obtain⟨⟨l,hp1⟩,h1,h2⟩:=h
 simp only[Qc] at h2
 obtain⟨rfl,rfl⟩:=h2
 obtain⟨T,rfl,L,R,Pp,G⟩:=Qc7 hf h1
 have er:D.rch1 hp (.pt id off)=id::cs.flatMap D.ids0:=by simp only[D.rch1,hl]
 rw[er]
 have hrm:∀(l:Hp) i e,lk (rm l id) i=some e→lk l i=some e:=fun l i e he=>by
  rw[Yo] at he
  split at he
  ·cases he
  ·exact he
 refine⟨fun l=>T (rm l id),rfl,Loc.comp (L.mono fun i hi=>Qu _ hi) (Loc.rm (by simp)),fun l i e he=>hrm _ _ _ (R _ _ _ he),fun i hi=>?_,fun hp2 hh=>?_⟩
 ·rcases Qh.1 hi with rfl|hi
  ·rw[hl];simp
  ·cases hq:lk (rm hp id) i with
   |none=>exact absurd hq (Pp i hi)
   |some e=>rw[hrm _ _ _ hq];simp
 ·have h2:lk hp2 id=some (.box cs):=by rw[hh id (by simp),hl]
  refine⟨by simp only[D.rch1,h2],?_⟩
  rw[hg,h2]
  simp only
  rw[if_pos h0,(G (rm hp2 id) fun i hi=>?_).2]
  ·rfl
  ·rw[Yo,Yo]
   split
   ·rfl
   ·exact hh i (Qu _ hi)
theorem Qoy:Frm ZV (fun hp d=>d.rch1 hp):=⟨fun {hp hp' d e} h=>by
 have key:(∀hp,ZV hp d=XF hp d)→(∀hp:Hp,d.rch1 hp=d.ids0)→∃T:Hp→Hp,hp'=T hp∧Loc (fun id=>id∈d.rch1 hp) T∧(∀(l:Hp) id e,lk (T l) id=some e→lk l id=some e)∧(∀id∈d.rch1 hp,lk hp id≠none)∧
   ∀hp2,(∀id∈d.rch1 hp,lk hp2 id=lk hp id)→d.rch1 hp2=d.rch1 hp∧ZV hp2 d=some (e,T hp2):=fun h0 h1=>by
  rw[h0] at h
  obtain⟨T,a,b,c,e1,f⟩:=frm_expel0.fr h
  rw[h1 hp]
  exact⟨T,a,b,c,e1,fun hp2 hh=>⟨h1 hp2,by rw[h0];exact (f hp2 hh).2⟩⟩
 cases d
 case pt id off=>exact Qih Qox (g:=ZV) (fun hp=>rfl) h
 case agg cs=>simp [ZV,XF] at h
 all_goals exact key (fun _=>rfl) (fun _=>rfl)⟩
theorem frm_expel1:Frm X2 (fun hp d=>d.rch hp):=⟨fun {hp hp' d e} h=>by
 have key:(∀hp,X2 hp d=XF hp d)→(∀hp:Hp,d.rch hp=d.ids0)→∃T:Hp→Hp,hp'=T hp∧Loc (fun id=>id∈d.rch hp) T∧(∀(l:Hp) id e,lk (T l) id=some e→lk l id=some e)∧(∀id∈d.rch hp,lk hp id≠none)∧
   ∀hp2,(∀id∈d.rch hp,lk hp2 id=lk hp id)→d.rch hp2=d.rch hp∧X2 hp2 d=some (e,T hp2):=fun h0 h1=>by
  rw[h0] at h
  obtain⟨T,a,b,c,e1,f⟩:=frm_expel0.fr h
  rw[h1 hp]
  exact⟨T,a,b,c,e1,fun hp2 hh=>⟨h1 hp2,by rw[h0];exact (f hp2 hh).2⟩⟩
 cases d
 case pt id off=>exact Qih frm_expel0 (g:=X2) (fun hp=>rfl) h
 case agg cs=>
  simp only[X2,Qi] at h
  obtain⟨⟨l,hp1⟩,h1,h2⟩:=h
  simp only[Qc] at h2
  obtain⟨rfl,rfl⟩:=h2
  obtain⟨T,rfl,L,R,Pp,G⟩:=Qc7 frm_expel0 h1
  exact⟨T,rfl,L,R,Pp,fun hp2 hh=>⟨rfl,by simp only[X2,(G hp2 hh).2,Option.map_some]⟩⟩
 case clo f cs=>
  simp only[X2,Qi] at h
  obtain⟨⟨l,hp1⟩,h1,h2⟩:=h
  simp only[Qc] at h2
  obtain⟨rfl,rfl⟩:=h2
  obtain⟨T,rfl,L,R,Pp,G⟩:=Qc7 Qoy h1
  exact⟨T,rfl,L,R,Pp,fun hp2 hh=>⟨(G hp2 hh).1,by simp only[X2,(G hp2 hh).2,Option.map_some]⟩⟩
 all_goals exact key (fun _=>rfl) (fun _=>rfl)⟩
theorem Qii:Frm ZJ (fun _ d=>d.ids):=⟨fun {hp hp' d e} h=>by
 by_cases ha:∃cs,d=.agg cs
 ·obtain⟨cs,rfl⟩:=ha
  have h:X2 hp (.agg cs)=some (e,hp'):=h
  obtain⟨T,a,b,c,e1,f⟩:=frm_expel1.fr h
  exact⟨T,a,b,c,e1,fun hp2 hh=>⟨rfl,(f hp2 hh).2⟩⟩
 ·obtain⟨T,h1,h2,h3,h4,h5⟩:=Qov (fun cs e=>ha ⟨cs,e⟩) h
  exact⟨T,h1,h2,h3,fun id hi=>h4 id (by rw[(Qe0 h).1];exact hi),fun hp2 hh=>⟨rfl,h5 hp2 hh⟩⟩⟩
def rG(m:Md)(hp:Hp)(d:D):List Nat:=match m with
 | .rd=>[]
 | .mp=>d.rch hp
 |_=>d.ids
theorem Qoz(m:Md):Frm (fun hp d=>Zr hp m d) (rG m):=by
 cases m
 case rd=>
  refine⟨fun {hp hp' d e} h=>?_⟩
  simp only[Zr,Qb,Qc] at h
  obtain⟨rfl,rfl⟩:=h
  exact⟨fun l=>l,rfl,Loc.id,fun _ _ _ h=>h,by simp [rG],fun hp2 _=>⟨rfl,rfl⟩⟩
 case mp=>exact frm_expel1
 case mu=>exact Qii
 case ow=>exact Qii
def gM(hp:Hp):List Md→List D→List Nat
 |m::md,d::ds=>rG m hp d++gM hp md ds
 |_,_=>[]
theorem Qij:∀{md:List Md}{ds es:List D}{hp hp':Hp},Yr hp md ds=some (es,hp')→∃T:Hp→Hp,hp'=T hp∧Loc (fun id=>id∈gM hp md ds) T∧(∀(l:Hp) id e,lk (T l) id=some e→lk l id=some e)∧
  (∀id∈gM hp md ds,lk hp id≠none)∧Xv md es=Xv md ds∧∀hp2,(∀id∈gM hp md ds,lk hp2 id=lk hp id)→gM hp2 md ds=gM hp md ds∧Yr hp2 md ds=some (es,T hp2)
 |[],ds,es,hp,hp',h=>by
  have:es=ds∧hp'=hp:=by cases ds<;>simp only[Yr,Qb,Qc] at h<;>exact⟨h.1.symm,h.2.symm⟩
  obtain⟨rfl,rfl⟩:=this
  exact⟨fun l=>l,rfl,Loc.id,fun _ _ _ h=>h,by simp [gM],rfl,fun hp2 _=>⟨rfl,by cases es<;>rfl⟩⟩
 |m::md,[],es,hp,hp',h=>by
  simp only[Yr,Qb,Qc] at h
  obtain⟨rfl,rfl⟩:=h
  exact⟨fun l=>l,rfl,Loc.id,fun _ _ _ h=>h,by simp [gM],rfl,fun hp2 _=>⟨rfl,rfl⟩⟩
 |m::md,d::ds,es,hp,hp',h=>by
  simp only[Yr] at h
  split at h
  case h_2=>cases h
  rename_i e hp1 h1
  split at h
  case h_2=>cases h
  rename_i l hp3 h2
  simp only[Qb,Qc] at h
  obtain⟨rfl,rfl⟩:=h
  have hrd:∀(l:List D),Xv md l=Xv md ds→Xv (m::md) (e::l)=Xv (m::md) (d::ds):=fun l hl=>by
   by_cases hm:m=.rd
   ·subst hm
    simp only[Zr,Qb,Qc] at h1
    simp only[Xv,h1.1,hl]
   ·rw[QbT hm,QbT hm,hl]
  obtain⟨T1,rfl,L1,R1,P1,G1⟩:=(Qoz m).fr h1
  obtain⟨T2,rfl,L2,R2,P2,Q2,G2⟩:=Qij h2
  have ag:∀id∈gM (T1 hp) md ds,lk hp id=lk (T1 hp) id:=fun id hi=>by
   cases hl:lk (T1 hp) id with
   |none=>exact absurd hl (P2 id hi)
   |some e=>exact R1 _ _ _ hl
  have er:gM hp md ds=gM (T1 hp) md ds:=(G2 hp ag).1
  simp only[gM]
  refine⟨fun l=>T2 (T1 l),rfl,Loc.comp (L2.mono fun id hi=>Qd.2 (.inr (by rw[er];exact hi))) (L1.mono fun id hi=>Qd.2 (.inl hi)),fun l id e he=>R1 _ _ _ (R2 _ _ _ he),fun id hi=>?_,hrd _ Q2,fun hp2 hh=>?_⟩
  ·rcases Qd.1 hi with hi|hi
   ·exact P1 id hi
   ·rw[er] at hi
    rw[ag id hi];exact P2 id hi
  ·obtain⟨e1,g1⟩:=G1 hp2 fun id hi=>hh id (Qd.2 (.inl hi))
   have hr:∀id∈gM (T1 hp) md ds,lk hp2 id=lk hp id:=fun id hi=>hh id (Qd.2 (.inr (by rw[er];exact hi)))
   obtain⟨_,g2⟩:=G2 (T1 hp2) fun id hi=>by
    by_cases hid:id∈rG m hp d
    ·exact L1.same _ _ (fun i hi=>hh i (Qd.2 (.inl hi))) id hid
    ·rw[L1.out _ id hid,L1.out _ id hid];exact hr id hi
   have e3:=(G2 hp2 fun id hi=>by rw[hr id hi,ag id hi]).1
   exact⟨by rw[e1,e3,er],by simp only[Yr,g1,g2]⟩
def muD(hp:Hp):List Md→List D→List Nat
 | .mp::md,d::ds=>d.rch hp++muD hp md ds
 |_::md,d::ds=>d.ids++muD hp md ds
 |[],ds=>ds.flatMap D.ids
 |_::_,[]=>[]
theorem QbW{hp:Hp}(d:D):∀id∈d.ids,id∈d.rch hp:=by
 intro id
 cases d<;>simp [D.ids,D.rch,D.rch1,D.ids0]
theorem Qe3{hp:Hp}:∀{md:List Md}{ds:List D},∀id∈gM hp md ds,id∈muD hp md ds
 |[],ds,id,h=>by simp [gM] at h
 |m::md,[],id,h=>by simp [gM] at h
 |m::md,d::ds,id,h=>by
  simp only[gM,Qd] at h
  have ih:=Qe3 (hp:=hp) (md:=md) (ds:=ds) id
  cases m<;>simp only[muD,Qd,rG] at h ⊢
  case rd=>rcases h with h|h;cases h;exact .inr (ih h)
  all_goals exact h.imp (fun h=>h) ih
theorem Qik{hp:Hp}:∀{md:List Md}{ds:List D},∀d∈Xv md ds,∀id∈d.ids,id∈muD hp md ds
 |[],ds,d,hd,id,hi=>by
  have e1:muD hp [] ds=ds.flatMap D.ids:=by cases ds<;>rfl
  have e2:Xv [] ds=ds:=by cases ds<;>rfl
  rw[e2] at hd
  rw[e1];exact Qr.2 ⟨d,hd,hi⟩
 |m::md,[],d,hd,id,hi=>by cases m<;>simp [Xv] at hd
 |m::md,c::ds,d,hd,id,hi=>by
  have ih:=Qik (hp:=hp) (md:=md) (ds:=ds)
  cases m<;>simp only[Xv,Qh,muD,Qd] at hd ⊢
  case rd=>
   rcases hd with rfl|hd
   ·exact .inl hi
   ·exact .inr (ih d hd id hi)
  all_goals exact .inr (ih d hd id hi)
theorem Qe4{hp:Hp}:∀{md:List Md}{ds:List D},∀id∈muD hp md ds,id∈ds.flatMap (D.rch hp)
 |[],ds,id,h=>by
  have e1:muD hp [] ds=ds.flatMap D.ids:=by cases ds<;>rfl
  rw[e1] at h
  obtain⟨d,hd,hi⟩:=Qr.1 h
  exact Qr.2 ⟨d,hd,QbW d id hi⟩
 |m::md,[],id,h=>by cases m<;>simp [muD] at h
 |m::md,c::ds,id,h=>by
  have ih:=Qe4 (hp:=hp) (md:=md) (ds:=ds) id
  rw[List.flatMap_cons,Qd]
  cases m<;>simp only[muD,Qd] at h
  case mp=>exact h.imp (fun h=>h) ih
  all_goals exact h.imp (QbW c id) ih
theorem Qil{d:D}(h:d.nPc=true)(hp:Hp):d.rch hp=d.ids:=by
 cases d<;>simp [D.nPc] at h<;>rfl
theorem Qim{hp hp':Hp}{m:Md}{d e:D}(h:Zr hp m d=some (e,hp'))(h1:m≠.rd)(h2:m≠.mp):d.nPc=true:=by
 cases m
 case rd=>exact absurd rfl h1
 case mp=>exact absurd rfl h2
 case mu=>exact (Qe0 h).2
 case ow=>exact (Qe0 h).2
theorem Qin:∀{md:List Md}{ds es:List D}{hp hp':Hp},Yr hp md ds=some (es,hp')→∀d∈ds,d∈Xv md ds∨∀hp0,∀id∈d.rch hp0,id∈gM hp0 md ds
 |[],ds,es,hp,hp',h,d,hd=>by
  have e2:Xv [] ds=ds:=by cases ds<;>rfl
  exact .inl (by rw[e2];exact hd)
 |m::md,[],es,hp,hp',h,d,hd=>by cases hd
 |m::md,c::ds,es,hp,hp',h,d,hd=>by
  simp only[Yr] at h
  split at h
  case h_2=>cases h
  rename_i e hp1 h1
  split at h
  case h_2=>cases h
  rename_i l hp3 h2
  rcases Qh.1 hd with rfl|hd
  ·by_cases hm:m=.rd
   ·subst hm;exact .inl (by simp [Xv])
   ·refine .inr fun hp0 id hi=>?_
    simp only[gM,Qd]
    by_cases hp:m=.mp
    ·subst hp;exact .inl hi
    ·rw[Qil (Qim h1 hm hp)] at hi
     cases m
     case rd=>exact absurd rfl hm
     case mp=>exact absurd rfl hp
     all_goals exact .inl hi
  ·rcases Qin h2 d hd with h|h
   ·left
    cases m<;>simp only[Xv,Qh]
    case rd=>exact .inr h
    all_goals exact h
   ·exact .inr fun hp0 id hi=>by simp only[gM,Qd];exact .inr (h hp0 id hi)
def D.own1:D→List Nat
 | .pt id _=>[id]
 |_=>[]
def D.own:D→List Nat
 | .sl id _ _=>[id]
 | .pt id _=>[id]
 | .clo _ cs=>cs.flatMap D.own1
 |_=>[]
theorem QoA{hp:Hp}(d:D):∀id∈d.own,id∈d.rch hp:=by
 intro id hi
 cases d<;>simp only[D.own,Qm,List.not_mem_nil] at hi
 case sl=>simp [D.rch,D.rch1,D.ids0,hi]
 case pt=>simp [D.rch,D.rch1,hi]
 case clo f cs=>
  obtain⟨c,hc,hi⟩:=Qr.1 hi
  simp only[D.rch]
  refine Qr.2 ⟨c,hc,?_⟩
  cases c<;>simp only[D.own1,Qm,List.not_mem_nil] at hi
  simp [D.rch1,hi]
theorem Qio(hp0:Hp):∀{md:List Md}{ds es:List D}{hp hp':Hp}{k:Nat},Yr hp md ds=some (es,hp')→∀i∈XW k md,k≤i∧∀y,ds[i-k]?=some y→∀id∈y.own,id∈muD hp0 md ds
 |[],ds,es,hp,hp',k,h,i,hi=>by simp [XW] at hi
 |m::md,[],es,hp,hp',k,h,i,hi=>by
  have key:∀(md:List Md)(k:Nat),∀i∈XW k md,k≤i:=fun md=>by
   induction md with
   |nil=>simp [XW]
   |cons m md ih=>
    intro k i hi
    cases m<;>simp only[XW,Qh] at hi
    case mu=>rcases hi with rfl|hi;omega;have:=ih _ i hi;omega
    case mp=>rcases hi with rfl|hi;omega;have:=ih _ i hi;omega
    all_goals have:=ih _ i hi;omega
  exact⟨key _ _ i hi,by simp⟩
 |m::md,d::ds,es,hp,hp',k,h,i,hi=>by
  simp only[Yr] at h
  split at h
  case h_2=>cases h
  rename_i e hp1 h1
  split at h
  case h_2=>cases h
  rename_i l hp3 h2
  have tail:i∈XW (k+1) md→k≤i∧∀y,(d::ds)[i-k]?=some y→∀id∈y.own,id∈muD hp0 (m::md) (d::ds):=fun hi=>by
   obtain⟨g1,g2⟩:=Qio hp0 h2 i hi
   refine⟨by omega,fun y hy id hid=>?_⟩
   rw[show i-k=(i-(k+1))+1 by omega,List.getElem?_cons_succ] at hy
   have:=g2 y hy id hid
   cases m<;>simp only[muD,Qd]<;>exact .inr this
  have head:i=k→(m=.mp∨d.nPc=true)→k≤i∧∀y,(d::ds)[i-k]?=some y→∀id∈y.own,id∈muD hp0 (m::md) (d::ds):=fun e hm=>by
   subst e
   refine⟨Qg _,fun y hy id hid=>?_⟩
   rw[Nat.sub_self,List.getElem?_cons_zero,Qb] at hy
   subst hy
   have hr:=QoA (hp:=hp0) d id hid
   rcases hm with rfl|hm
   ·simp only[muD,Qd];exact .inl hr
   ·rw[Qil hm] at hr
    cases m<;>simp only[muD,Qd]
    case mp=>exact .inl (QbW d id hr)
    all_goals exact .inl hr
  cases m<;>simp only[XW,Qh] at hi
  case mu=>
   rcases hi with hi|hi
   ·exact head hi (.inr (Qim h1 (by simp) (by simp)))
   ·exact tail hi
  case mp=>
   rcases hi with hi|hi
   ·exact head hi (.inl rfl)
   ·exact tail hi
  all_goals exact tail hi
theorem QoB{md:List Md}{ds args:List D}(hg:Zo hp md ds=some (args,hp')):
  ∃T,hp'=T hp∧Loc (fun id=>id∈muD hp md ds) T∧(∀id∈ds.flatMap (D.rch hp),lk hp id≠none)∧(∀i∈XW 0 md,∀y,ds[i]?=some y→∀id∈y.own,id∈muD hp md ds)∧
   ∀hp2,(∀id∈ds.flatMap (D.rch hp),lk hp2 id=lk hp id)→Zo hp2 md ds=some (args,T hp2):=by
 have hge:∀hp,Zo hp md ds=match Yr hp md ds with
   |some (es,hp1)=>(XL hp1 md es).map fun l=>(l,hp1)
   |none=>none:=by
  intro hp
  cases md with
  |nil=>
   have e1:Yr hp [] ds=some (ds,hp):=by cases ds<;>rfl
   have e2:XL hp [] ds=QU (Xz hp) ds:=by cases ds<;>rfl
   simp only[Zo,e1,e2]
  |cons m md=>rfl
 have hrdl:=QhN hg
 rw[hge] at hg
 split at hg
 case h_2=>cases hg
 rename_i es hp1 h1
 simp only[Qi,Qc] at hg
 obtain⟨l,hl,rfl,rfl⟩:=hg
 have hown:=Qio hp (k:=0) h1
 have hcov:=Qin h1
 obtain⟨T,rfl,hT,hsub,hpre,hrd,hgo⟩:=Qij h1
 have hrch:∀d∈Xv md ds,d.rch hp=d.rch (T hp):=fun d hd=>let ⟨e,he⟩:=hrdl d hd;Qow (fun id e he=>hsub _ _ _ he) he
 refine⟨T,rfl,hT.mono Qe3,fun id hid=>?_,fun i hi y hy=>(hown i hi).2 y (by simpa using hy),fun hp2 hh=>?_⟩
 ·obtain⟨d,hd,hi⟩:=Qr.1 hid
  rcases hcov d hd with h|h3
  ·obtain⟨e,he⟩:=hrdl d h
   rw[hrch d h] at hi
   have:=Qoq he id hi
   intro hn
   cases hl2:lk (T hp) id with
   |none=>exact this hl2
   |some e=>rw[hsub _ _ _ hl2] at hn;cases hn
  ·exact hpre id (h3 hp id hi)
 ·have hi2:∀id∈gM hp md ds,lk hp2 id=lk hp id:=fun id hi=>hh id (Qe4 id (Qe3 id hi))
  have hag:∀id∈ds.flatMap (D.rch hp),lk (T hp2) id=lk (T hp) id:=fun id hi=>by
   by_cases hS:id∈gM hp md ds
   ·exact hT.same _ _ hi2 id hS
   ·rw[hT.out _ id hS,hT.out _ id hS];exact hh id hi
  rw[hge,(hgo hp2 hi2).2]
  simp only
  rw[Qe2 (hp:=T hp) (fun d hd id hi=>by
   rw[hrd] at hd
   rw[←hrch d hd] at hi
   exact hag id (Qr.2 ⟨d,Qe1 d hd,hi⟩)),hl]
  rfl
theorem Qip:∀{cs bs:List D}{n n':Nat}{hp hp':Hp},YJ n cs bs hp=some (n',hp')→n≤n'∧∃E,hp'=E++hp∧(∀p∈E,p.1∈cs.flatMap D.own1∨(n≤p.1∧p.1<n'))∧∀hpb,YJ n cs bs hpb=some (n',E++hpb)
 |[],[],n,n',hp,hp',h=>by
  simp only[YJ,Qb,Qc] at h
  obtain⟨rfl,rfl⟩:=h
  exact⟨Qg _,[],rfl,by simp,fun _=>rfl⟩
 |[],_::_,n,n',hp,hp',h=>by simp [YJ] at h
 |_::_,[],n,n',hp,hp',h=>by simp [YJ] at h
 |c::cs,b::bs,n,n',hp,hp',h=>by
  simp only[YJ] at h
  split at h
  case h_2=>cases h
  rename_i id l
  split at h
  case isFalse=>cases h
  rename_i ho
  obtain⟨r1,r2⟩:=J4 (f:=QW) (fun n d=>QaC) (ds:=l) (n:=n)
  obtain⟨g1,E,rfl,g2,g3⟩:=Qip h
  refine⟨by omega,E++((id,.box (Xa QW n l).1)::(Xa QW n l).2.1),by simp,fun p hp=>?_,fun hpb=>?_⟩
  ·simp only[List.flatMap_cons,Qd]
   rcases Qd.1 hp with hp|hp
   ·rcases g2 p hp with h|h
    ·exact .inl (.inr h)
    ·exact .inr ⟨by omega,h.2⟩
   ·rcases Qh.1 hp with rfl|hp
    ·exact .inl (.inl (by simp [D.own1]))
    ·have:=r2 p hp
     exact .inr ⟨by omega,by omega⟩
  ·simp only[YJ]
   rw[if_pos ho,g3]
   simp
theorem QbX{hp0:qHp}{ds:List D}{S:Nat→Prop}:∀{outs:qSl}{n n':Nat}{hp hp':qHp},Yb hp0 ds n outs hp=some (n',hp')→(∀i∈outs.map (·.1),∀y,ds[i]?=some y→∀id∈y.own,S id)→
  n≤n'∧∃E,hp'=E++hp∧(∀p∈E,S p.1∨(n≤p.1∧p.1<n'))∧∀hq hpb,(∀id,S id→lk hq id=lk hp0 id)→Yb hq ds n outs hpb=some (n',E++hpb)
 |[],n,n',hp,hp',h,_=>by
  simp only[Yb,Qb,Qc] at h
  obtain⟨rfl,rfl⟩:=h
  exact⟨Qg _,[],rfl,by simp,fun _ _ _=>rfl⟩
 |(i,d)::l,n,n',hp,hp',h,hno=>by
  have hno2:∀j∈l.map (·.1),∀y,ds[j]?=some y→∀id∈y.own,S id:=fun j hj=>hno j (by simp at hj ⊢;exact .inr hj)
  have hno1:=hno i (by simp)
  simp only[Yb] at h
  split at h
  ·rename_i id len sz xs hds
   split at h
   case isFalse=>cases h
   rename_i hc
   obtain⟨g1,E,rfl,hE,hgo⟩:=QbX h hno2
   have hid:S id:=hno1 _ hds id (by simp [D.own])
   refine⟨g1,E++[(id,.arr sz xs)],by simp,fun p hp=>?_,fun hq hpb hh=>?_⟩
   ·rcases Qd.1 hp with hp|hp
    ·exact hE p hp
    ·simp only[Qm] at hp;subst hp;exact .inl hid
   ·have ha:JX hq id=JX hp0 id:=by simp only[JX,hh id hid]
    simp only[Yb,hds]
    rw[ha,if_pos hc,hgo hq _ hh]
    simp
  ·rename_i id cs hds
   split at h
   case isFalse=>cases h
   rename_i hc
   obtain⟨r1,r2⟩:=J4 (f:=QW) (fun n d=>QaC) (ds:=cs) (n:=n)
   obtain⟨g1,E,rfl,hE,hgo⟩:=QbX h hno2
   have hid:S id:=hno1 _ hds id (by simp [D.own])
   refine⟨by omega,E++((id,.box (Xa QW n cs).1)::(Xa QW n cs).2.1),by simp,fun p hp=>?_,fun hq hpb hh=>?_⟩
   ·rcases Qd.1 hp with hp|hp
    ·exact (hE p hp).imp (fun h=>h) fun h=>⟨by omega,h.2⟩
    ·rcases Qh.1 hp with rfl|hp
     ·exact .inl hid
     ·have:=r2 p hp
      exact .inr ⟨by omega,by omega⟩
   ·simp only[Yb,hds]
    rw[if_pos hc,hgo hq _ hh]
    simp
  ·rename_i f cs f' bs hds
   split at h
   case isFalse=>cases h
   rename_i hf
   split at h
   case h_2=>cases h
   rename_i n1 hp1 hc
   obtain⟨c1,E1,rfl,c2,c3⟩:=Qip hc
   obtain⟨g1,E,rfl,hE,hgo⟩:=QbX h hno2
   have hown:=hno1 _ hds
   refine⟨by omega,E++E1,by simp,fun p hp=>?_,fun hq hpb hh=>?_⟩
   ·rcases Qd.1 hp with hp|hp
    ·exact (hE p hp).imp (fun h=>h) fun h=>⟨by omega,h.2⟩
    ·rcases c2 p hp with h|h
     ·exact .inl (hown p.1 (by simpa only[D.own] using h))
     ·exact .inr ⟨h.1,by omega⟩
   ·simp only[Yb,hds]
    rw[if_pos hf,c3]
    simp only
    rw[hgo hq _ hh]
    simp
  ·cases h
theorem Qiq{P:Program}{f:Nat}{ds:List D}{md:List Md}(hk:YX P n hp f ds md (·=(d,hp'))):
  ∃T,hp'=T hp∧Loc (fun id=>id∈muD hp md ds∨(n≤id∧id<n+64)) T∧
  (∀id∈ds.flatMap (D.rch hp),lk hp id≠none)∧∀hp2,(∀id∈ds.flatMap (D.rch hp),lk hp2 id=lk hp id)→YX P n hp2 f ds md (·=(d,T hp2)):=by
 unfold YX kon at hk
 split at hk
 case h_2=>exact hk.elim
 rename_i q hg
 obtain⟨args,hp1⟩:=q
 obtain⟨T0,rfl,hT0,hpre,hno,hgo⟩:=QoB hg
 obtain⟨fz,r,outs,hfc,ha⟩:=hk
 simp only at ha
 split at ha
 case h_2=>exact ha.elim
 rename_i dh hac
 subst ha
 unfold Zy at hac
 split at hac
 case isFalse=>cases hac
 rename_i hcond
 have hout:∀i∈outs.map (·.1),∀y,ds[i]?=some y→∀id∈y.own,id∈muD hp md ds:=by rw[hcond.1];exact hno
 have hids:∀hp2,(∀id∈ds.flatMap (D.rch hp),lk hp2 id=lk hp id)→∀id,id∈muD hp md ds→lk hp2 id=lk hp id:=fun hp2 hh id hi=>hh id (Qe4 id hi)
 split at hac
 ·rename_i hflat
  split at hac
  case h_2=>cases hac
  rename_i n' hp'' htb
  split at hac
  case isFalse=>cases hac
  rename_i hle
  simp only[Qb,Qc] at hac
  obtain⟨rfl,rfl⟩:=hac
  obtain⟨hn1,E,rfl,hE,hgb⟩:=QbX (S:=fun id=>id∈muD hp md ds) htb hout
  have hr1:=(adopt_rng (n:=n) (d:=r)).1
  refine⟨fun hp=>E++((XP n r).2.1++T0 hp),rfl,Loc.comp (Loc.app fun p hp=>(hE p hp).imp (fun h=>h) fun h=>⟨by omega,by omega⟩) (Loc.comp (Loc.app fun p hp=>.inr ?_) (hT0.mono fun _ h=>.inl h)),hpre,fun hp2 hh=>?_⟩
  ·have:=adopt_rng.2 p hp;omega
  ·simp only[YX,hgo hp2 hh,kon]
   refine⟨fz,r,outs,hfc,?_⟩
   simp only[Zy]
   rw[if_pos hcond,if_pos hflat,hgb hp2 _ (hids hp2 hh)]
   simp only
   rw[if_pos hle]
 ·rename_i hflat
  split at hac
  case isFalse=>cases hac
  rename_i hno
  split at hac
  case h_2=>cases hac
  rename_i n' hp'' htb
  split at hac
  case isFalse=>cases hac
  rename_i hle
  simp only[Qb,Qc] at hac
  obtain⟨rfl,rfl⟩:=hac
  obtain⟨hn1,E,rfl,hE,hgb⟩:=QbX (S:=fun id=>id∈muD hp md ds) htb hout
  have hr1:=(adopt_rng (n:=n) (d:=r)).1
  refine⟨fun hp=>E++((XP n r).2.1++Q9 ((Xv md ds).flatMap D.ids) (T0 hp)),rfl,Loc.comp (Loc.app fun p hp=>(hE p hp).imp (fun h=>h) fun h=>⟨by omega,by omega⟩) (Loc.comp (Loc.app fun p hp=>.inr ?_) (Loc.comp (Loc.freeze fun id hid=>.inl ?_) (hT0.mono fun _ h=>.inl h))),hpre,fun hp2 hh=>?_⟩
  ·have:=adopt_rng.2 p hp;omega
  ·obtain⟨d,hd,hi⟩:=Qr.1 hid
   exact Qik d hd id hi
  ·simp only[YX,hgo hp2 hh,kon]
   refine⟨fz,r,outs,hfc,?_⟩
   simp only[Zy]
   rw[if_pos hcond,if_neg hflat,if_pos hno,hgb hp2 _ (hids hp2 hh)]
   simp only
   rw[if_pos hle]
end
def Fp(n:Nat)(ck:Bool)(mu:List Nat)(id:Nat):Prop:=id∈mu∨(ck=true∧n≤id∧id<n+64)
theorem QbY{sl:qSl}{g:D→List Nat}:∀{l:List X}{ds:List D},QU (ev sl) l=some ds→(l.flatMap fun x=>g (evL sl x))=ds.flatMap g
 |[],ds,h=>by simp only[QU,Qb] at h;subst h;rfl
 |x::l,ds,h=>by
  simp only[QU] at h
  split at h
  case h_2=>cases h
  rename_i d es hd hes
  simp only[Qb] at h
  subst h
  simp only[List.flatMap_cons,Q7 hd,QbY hes]
theorem Qir{sl:qSl}{hp:qHp}:∀{md:List Md}{l:List X}{ds:List D},QU (ev sl) l=some ds→muX sl hp md l=muD hp md ds
 |[],l,ds,h=>by
  have e1:muX sl hp [] l=l.flatMap fun x=>(evL sl x).ids:=by cases l<;>rfl
  have e2:muD hp [] ds=ds.flatMap D.ids:=by cases ds<;>rfl
  rw[e1,e2];exact QbY h
 |m::md,[],ds,h=>by simp only[QU,Qb] at h;subst h;cases m<;>rfl
 |m::md,x::l,ds,h=>by
  simp only[QU] at h
  split at h
  case h_2=>cases h
  rename_i d es hd hes
  simp only[Qb] at h
  subst h
  have ih:=Qir (hp:=hp) (md:=md) hes
  cases m<;>simp only[muX,muD,Q7 hd,ih]
theorem Qis{sl:qSl}{hp:qHp}:∀{md:List Md}{l:List X},∀id∈muX sl hp md l,id∈l.flatMap fun x=>(evL sl x).rch hp
 |[],l,id,h=>by
  have e1:muX sl hp [] l=l.flatMap fun x=>(evL sl x).ids:=by cases l<;>rfl
  rw[e1] at h
  obtain⟨x,hx,hi⟩:=Qr.1 h
  exact Qr.2 ⟨x,hx,QbW _ id hi⟩
 |m::md,[],id,h=>by cases m<;>simp [muX] at h
 |m::md,x::l,id,h=>by
  have ih:=Qis (sl:=sl) (hp:=hp) (md:=md) (l:=l) id
  rw[List.flatMap_cons,Qd]
  cases m<;>simp only[muX,Qd] at h
  case mp=>exact h.imp (fun h=>h) ih
  all_goals exact h.imp (QbW _ id) ih
theorem Qbk{α:Type}{o:Option α}{f:α→Prop}(h:kon o f):∃a,o=some a∧f a:=by
 cases o
 ·exact h.elim
 ·exact⟨_,rfl,h⟩
theorem Qit{P:Program}{n:Nat}{hp:qHp}{f:Nat}{ds:List D}{md:List Md}{K:D×qHp→Prop}(hk:YX P n hp f ds md K):∃p,K p∧YX P n hp f ds md (·=p):=by
 obtain⟨q,hq,fz,r,outs,hfc,ha⟩:=Qbk hk
 obtain⟨p,hp,hK⟩:=Qbk ha
 refine⟨p,hK,?_⟩
 simp only[YX,hq,kon]
 exact⟨fz,r,outs,hfc,by simp only[hp]⟩
section
variable {P:Program} {n:Nat} {s s1:St} {op:LOp} {dst:Option Nat} {g:Option (Nat×Bool)}
theorem QoC{K:St→Prop}(hdet:op.det=true)(hk:XX P n ⟨dst,op,g⟩ s K):∃d T,K ⟨Q5 dst d s.sl,T s.hp,s.nx⟩∧Loc (Fp n op.ck (muI s.sl s.hp op)) T∧(∀id∈rdI s.sl s.hp op,lk s.hp id≠none)∧
  ∀sl2 hp2 nx2,(∀x∈op.xs,ev sl2 x=ev s.sl x)→(∀id∈rdI s.sl s.hp op,lk hp2 id=lk s.hp id)→XX P n ⟨dst,op,g⟩ ⟨sl2,hp2,nx2⟩ (·=⟨Q5 dst d sl2,T hp2,nx2⟩):=by
 obtain⟨sl,hp,nx⟩:=s
 have eff_case:(∀f l m,op≠.call f l m)→(∀x l,op≠.callv x l)→(∀x l,op≠.callm x l)→(∀g x,op≠.isnil g x)→(∀a x,op≠.stf a x)→(∀x,op≠.nxM x)→∃d T,K ⟨Q5 dst d sl,T hp,nx⟩∧Loc (Fp n op.ck (muI sl hp op)) T∧(∀id∈rdI sl hp op,lk hp id≠none)∧
  ∀sl2 hp2 nx2,(∀x∈op.xs,ev sl2 x=ev sl x)→(∀id∈rdI sl hp op,lk hp2 id=lk hp id)→XX P n ⟨dst,op,g⟩ ⟨sl2,hp2,nx2⟩ (·=⟨Q5 dst d sl2,T hp2,nx2⟩):=by
  intro h1 h2 h4 h3 h5 h6
  have e:∀(sl:qSl) hp nx(K:St→Prop),XX P n ⟨dst,op,g⟩ ⟨sl,hp,nx⟩ K=kon (eff n sl hp op) fun p=>K ⟨Q5 dst p.1 sl,p.2,nx⟩:=by
   intro sl hp nx K
   unfold XX
   cases op<;>first|rfl|exact absurd rfl (h1 _ _ _)|exact absurd rfl (h2 _ _)|exact absurd rfl (h4 _ _)|exact absurd rfl (h3 _ _)|exact absurd rfl (h5 _ _)|exact absurd rfl (h6 _)
  rw[e] at hk
  obtain⟨⟨d,hp'⟩,he,hK⟩:=Qbk hk
  obtain⟨T,rfl,hT,hp,hf⟩:=Qos he
  refine⟨d,T,hK,hT,hp,fun sl2 hp2 nx2 hx hh=>?_⟩
  rw[e,Qot hx,hf hp2 hh]
  rfl
 cases op with
 |call f l md=>
  simp only[XX] at hk
  obtain⟨ds,hds,hc⟩:=Qbk hk
  obtain⟨⟨d,hp'⟩,hK,hc⟩:=Qit hc
  obtain⟨T,rfl,hT,hpre,hf⟩:=Qiq hc
  have e1:muI sl hp (.call f l md)=muD hp md ds:=Qir hds
  have e2:rdI sl hp (.call f l md)=ds.flatMap (D.rch hp):=QbY hds
  refine⟨d,T,hK,?_,?_,fun sl2 hp2 nx2 hx hh=>?_⟩
  ·unfold Fp;rw[e1];simpa [LOp.ck] using hT
  ·rw[e2];exact hpre
  ·simp only[XX]
   rw[Jc (l:=l) (f:=ev sl2) (g:=ev sl) (fun x h=>hx x h),hds]
   rw[e2] at hh
   exact QbL (fun p hp=>by rw[hp]) (hf hp2 hh)
 |callv x l=>
  simp only[XX] at hk
  obtain⟨c,hc0,hk⟩:=Qbk hk
  obtain⟨ds,hds,hc⟩:=Qbk hk
  obtain⟨⟨d,hp'⟩,hK,hc⟩:=Qit hc
  obtain⟨T,rfl,hT,hpre,hf⟩:=Qiq hc
  have hcap:Qeo (evL sl x)=c.2:=by
   cases hx:ev sl x with
   |none=>rw[hx] at hc0;cases hc0
   |some e=>
    rw[hx,Option.bind_some] at hc0
    rw[Q7 hx]
    cases e<;>simp only[Jv,Qb,reduceCtorEq] at hc0
    subst hc0
    rfl
  have e1:muI sl hp (.callv x l)=muD hp [] (ds++c.2):=by
   have e0:muD hp [] (ds++c.2)=(ds++c.2).flatMap D.ids:=by cases ds++c.2<;>rfl
   rw[e0,List.flatMap_append,←QbY hds,←hcap];rfl
  have e2:rdI sl hp (.callv x l)=(ds++c.2).flatMap (D.rch hp):=by rw[List.flatMap_append,←QbY hds,←hcap];rfl
  refine⟨d,T,hK,?_,?_,fun sl2 hp2 nx2 hx hh=>?_⟩
  ·unfold Fp;rw[e1];simpa [LOp.ck] using hT
  ·rw[e2];exact hpre
  ·simp only[XX]
   rw[hx x (by simp [LOp.xs]),hc0,Jc (f:=ev sl2) (g:=ev sl) (fun y h=>hx y (by simp [LOp.xs,h])),hds]
   rw[e2] at hh
   exact QbL (fun p hp=>by rw[hp]) (hf hp2 hh)
 |isnil g x=>simp [LOp.det] at hdet
 |callm g x=>simp [LOp.det] at hdet
 |stf g x=>simp [LOp.det] at hdet
 |nxM x=>simp [LOp.det] at hdet
 |_=>exact eff_case (fun _ _ _=>by simp) (fun _ _=>by simp) (fun _ _=>by simp) (fun _ _=>by simp) (fun _ _=>by simp) (fun _=>by simp)
theorem QoD{li:LI}{sl sl2:qSl}(h:∀t∈li.reads,lk sl2 t=lk sl t):∀x∈li.op.xs,ev sl2 x=ev sl x:=by
 intro x hx
 cases x with
 |t t=>exact h t (List.mem_append_left _ (Qr.2 ⟨_,hx,by simp [X.slots]⟩))
 |k d=>rfl
theorem QoE{sl:qSl}{hp:qHp}{op:LOp}:∀id∈muI sl hp op,id∈rdI sl hp op:=by
 have one:∀d:D,∀id∈d.ids,id∈d.rch hp:=by
  intro d id
  cases d<;>simp [D.ids,D.rch,D.rch1,D.ids0]
 intro id h
 cases op<;>simp only[muI,List.not_mem_nil,Qd,Qr] at h
 case store m a x=>simpa only[rdI] using h
 case app s b x y=>simp only[rdI,Qd];exact .inl h
 case cpy s x y=>simp only[rdI,Qd];exact .inl h
 case clr s x=>simpa only[rdI] using h
 case tk x=>simpa only[rdI] using h
 case bsn b x=>simpa only[rdI] using h
 case upM m x k v=>simpa only[rdI] using h
 case rgM m x=>simpa only[rdI] using h
 case nxM x=>simpa only[rdI] using h
 case apn b x y=>simp only[rdI,Qd];exact h
 case pu a x=>simpa only[rdI] using h
 case buildSl s b z m ps=>simpa only[rdI,Qr] using h
 case call f l md=>
  simp only[rdI]
  exact Qis id h
 case callv x l=>
  simp only[rdI,Qd,Qr]
  rcases h with⟨x,hx,hi⟩|⟨x,hx,hi⟩
  ·exact .inl ⟨x,hx,one _ _ hi⟩
  ·exact .inr ⟨x,hx,one _ _ hi⟩
structure Fra(P:Program)(n:Nat)(li:LI)(s:St)(d:D)(T:qHp→qHp)(rd mu:List Nat):Prop where
 loc:Loc (Fp n li.op.ck mu) T
 pre:∀id∈rd,lk s.hp id≠none∧id∈rdI s.sl s.hp li.op
 mu:∀id∈mu,id∈rd∧id∈muI s.sl s.hp li.op
 go (sl2:qSl) (hp2:qHp) (nx2:Nat):(∀t∈li.reads,lk sl2 t=lk s.sl t)→(∀id∈rd,lk hp2 id=lk s.hp id)→YD P n li ⟨sl2,hp2,nx2⟩ (·=⟨Q5 li.dst d sl2,T hp2,nx2⟩)
theorem QoF{li:LI}{K:St→Prop}(hdet:li.op.det=true)(hk:YD P n li s K):∃d T rd mu,K ⟨Q5 li.dst d s.sl,T s.hp,s.nx⟩∧Fra P n li s d T rd mu:=by
 obtain⟨dst,op,g⟩:=li
 have act:XX P n ⟨dst,op,g⟩ s K→(∀(sl2:qSl)(hp2:qHp)(nx2:Nat)(K':St→Prop),(∀t∈LI.reads ⟨dst,op,g⟩,lk sl2 t=lk s.sl t)→XX P n ⟨dst,op,g⟩ ⟨sl2,hp2,nx2⟩ K'→YD P n ⟨dst,op,g⟩ ⟨sl2,hp2,nx2⟩ K')→
   ∃d T rd mu,K ⟨Q5 dst d s.sl,T s.hp,s.nx⟩∧Fra P n ⟨dst,op,g⟩ s d T rd mu:=fun hk hg=>by
  obtain⟨d,T,h1,h2,h3,h4⟩:=QoC hdet hk
  exact⟨d,T,_,_,h1,h2,fun id hid=>⟨h3 id hid,hid⟩,fun id hid=>⟨QoE id hid,hid⟩,fun sl2 hp2 nx2 hs hh=>hg _ _ _ _ hs (h4 sl2 hp2 nx2 (QoD hs) hh)⟩
 have skip:K ⟨Q5 dst .undef s.sl,s.hp,s.nx⟩→(∀(sl2:qSl)(hp2:qHp)(nx2:Nat)(K':St→Prop),(∀t∈LI.reads ⟨dst,op,g⟩,lk sl2 t=lk s.sl t)→K' ⟨Q5 dst .undef sl2,hp2,nx2⟩→YD P n ⟨dst,op,g⟩ ⟨sl2,hp2,nx2⟩ K')→
   ∃d T rd mu,K ⟨Q5 dst d s.sl,T s.hp,s.nx⟩∧Fra P n ⟨dst,op,g⟩ s d T rd mu:=fun hk hg=>
  ⟨.undef,fun l=>l,[],[],hk,Loc.id,by simp,by simp,fun sl2 hp2 nx2 hs _=>hg _ _ _ _ hs rfl⟩
 cases g with
 |none=>exact act hk fun sl2 hp2 nx2 K' _ h=>h
 |some tw=>
  obtain⟨t,w⟩:=tw
  have ht:t∈LI.reads ⟨dst,op,some (t,w)⟩:=by simp [LI.reads]
  have bc:∀{o:Option D}{p q r:Prop},Zh o p q r→(∃c:Bool,o=some (.bool c)∧(c=true→p)∧(c=false→q))∨(o=some .undef∧r):=by
   intro o p q r hb
   unfold Zh at hb
   split at hb
   ·exact .inl ⟨_,rfl,hb.1,hb.2⟩
   ·exact .inr ⟨rfl,hb⟩
   ·exact hb.elim
  cases w with
  |true=>
   simp only[YD] at hk
   rcases bc hk with⟨c,hc,h1,h2⟩|⟨hc,h0⟩
   ·cases c
    ·refine skip (h2 rfl) fun sl2 hp2 nx2 K' hs h=>?_
     simp only[YD,hs t ht,hc,Zh]
     simp [h]
    ·refine act (h1 rfl) fun sl2 hp2 nx2 K' hs h=>?_
     simp only[YD,hs t ht,hc,Zh]
     simp [h]
   ·refine skip h0 fun sl2 hp2 nx2 K' hs h=>?_
    simp only[YD,hs t ht,hc,Zh]
    exact h
  |false=>
   simp only[YD] at hk
   rcases bc hk with⟨c,hc,h1,h2⟩|⟨hc,h0⟩
   ·cases c
    ·refine act (h2 rfl) fun sl2 hp2 nx2 K' hs h=>?_
     simp only[YD,hs t ht,hc,Zh]
     simp [h]
    ·refine skip (h1 rfl) fun sl2 hp2 nx2 K' hs h=>?_
     simp only[YD,hs t ht,hc,Zh]
     simp [h]
   ·refine skip h0 fun sl2 hp2 nx2 K' hs h=>?_
    simp only[YD,hs t ht,hc,Zh]
    exact h
end
end Go.Am
