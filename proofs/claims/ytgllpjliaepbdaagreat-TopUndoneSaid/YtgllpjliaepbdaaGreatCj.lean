/- Contracts and what they rest on: Cj. -/
import Derived.Test.YtgllpjliaepbdaaGreatCi
import Derived.Test.YtgllpjliaepbdaaGreatCe
import Derived.Test.YtgllpjliaepbdaaGreatCf
import Derived.Test.YtgllpjliaepbdaaGreatCb
import Derived.Test.YtgllpjliaepbdaaGreatCa
import Derived.Test.YtgllpjliaepbdaaGreatCc
import Derived.Test.YtgllpjliaepbdaaGreatCd
import Derived.Test.YtgllpjliaepbdaaGreatCg
import Derived.Test.YtgllpjliaepbdaaGreatCh
import Derived.Test.YtgllpjliaepbdaaGreatAmPi
set_option linter.unusedVariables false
set_option linter.unusedSimpArgs false
set_option linter.unnecessarySimpa false
open Go Go.Proofs
namespace Go.Am
set_option maxRecDepth 100000
attribute [local irreducible] W
section
variable {t:Ty}
def rdD(d:RD):List D:=[.lst 1 (u8s d.l.n),.lst 3 (trs d.l.e),.lst 3 (trs d.s),.lst 4 (q4s .i8 d.q),.int .u64 d.k,.lst 1 (u8s d.n),.lst 3 (trs d.e),.lst 3 (trs d.sl),.bool d.pl,.bool d.inj,.int .u8 d.fb.a,.int .u8 d.fb.b,.int .u8 d.fb.c,.int .u8 d.fb.d,.lst 1 (u8s d.or)]
set_option maxHeartbeats 4000000 in
theorem Qwu(h:TyOk t){g:G}(tk:Typ t g)(g1:g.n.length≤100)(g2:g.e.length≤100){d:RD}(hd:d.ok):FT 109 [tyD t,gD g,.agg (rdD d)] (gA (gwM t g d.n d.e)):=by
 have hc:=Qwf h
 have ln:=h.ln
 have le:=h.le
 have hp:=h.pos
 have hdn:=hd.n
 have hde:=hd.e
 unfold rdD
 generalize d.n=n at*
 generalize d.e=e at*
 obtain⟨K,a1,a2,a3,a4,a5⟩:=QcH n 2 ((Xn t).length=0)
 have hcm:∀x∈Xn t,IsT t x:=fun x hx=>(QbI hx).1
 have hW:gwN t g.n n=g.n++(n.take K).map (pick (Xn t)):=by
  rw[←a5];unfold gwN;split<;>simp
 have hE:gwM t g n e=⟨gwN t g.n n,g.e++hnE t (gwN t g.n n) (if (gwN t g.n n).length=0∨t.e.length=0 then [] else e.take 2)⟩:=rfl
 rw[hE,hW]
 have hN:∀j:Nat,j<n.length→(n.take (j+1)).map (pick (Xn t))=(n.take j).map (pick (Xn t))++[pick (Xn t) (gt n (j:Int))]:=fun j hj=>by rw[Xm hj];simp
 have lN:∀j:Nat,j≤n.length→((n.take j).map (pick (Xn t))).length=j:=fun j hj=>by simp;omega
 have cl:(Xn t).length≤6:=Qt (QmE _ _) ln
 have hpk:∀x,pick (Xn t) x=gt (Xn t) (x.tmod (Xn t).length):=fun _=>rfl
 have hty0:∀j:Nat,((Xn t).length=0→j=0)→∀x∈g.n++(n.take j).map (pick (Xn t)),IsT t x:=fun j hj x hx=>by
  rcases Qd.1 hx with hx|hx
  ·exact tk.n x hx
  ·obtain⟨y,hy,rfl⟩:=Qv.1 hx
   refine hcm _ (QbH (hdn y (Qw hy)).1 ?_)
   rcases Nat.eq_zero_or_pos (Xn t).length with z|z
   ·rw[hj z] at hy;cases hy
   ·exact z
 generalize Xn t=C at*
 obtain⟨M,m1,m2,m3,m4,m5⟩:=QcH e 2 ((g.n++(n.take K).map (pick C)).length=0∨t.e.length=0)
 rw[m5]
 clear m5
 have m6:(g.n++(n.take K).map (pick C)).length=0→M=0:=fun z=>m4 (.inl z)
 have r0:=QaJ g (by omega) (by omega)
 simp only[gD,gA] at r0
 refine fo [[(1,none,[],true),(14,none,[1],false)],[],[]] ?_
 conv in fnC ..=>reduce
 simp(disch:=omega)only[go_sem,ayS,tyD,gD]
 refine QQ r0 ?_
 simp(disch:=omega)only[go_sem,ayS]
 simp only[tyD] at hc
 refine QQ hc ?_
 simp(disch:=omega)only[go_sem,ayS]
 refine Q8 9 K (fun _=>[]) (fun j=>[(5,.arr 1 (QR (g.n++(n.take j).map (pick C)))),(7,.box [.sl 5 0 (g.n.length+j),.sl 6 0 g.e.length])]) (fun _=>True) (by simp(disch:=omega)only[go_sem,List.take_zero,List.map_nil,List.append_nil];try rfl) trivial fun j hj _=>?_
 have b1:=lN j (by omega)
 have b2:(g.n++(n.take j).map (pick C)).length=g.n.length+j:=by rw[Qj,b1]
 by_cases c:j<K
 ·have hN:=hN j (by omega)
  have q0:=hdn _ (gt_mem (l:=n) (j:=(j:Int)) (by omega) (by omega))
  unfold XA at q0
  have hC:0<C.length:=by omega
  obtain⟨x,hx,ex⟩:=gtI (tmB (n:=(C.length:Int)) q0.1 (by omega))
  rw[hpk,ex] at hN
  simp(disch:=omega)only[go_sem,ayS,ex,b2]
  exact⟨j+1,by rw[hN];simp [QR,QA],by omega,by omega⟩
 ·obtain rfl:j=K:=by omega
  have hcase:(j<n.length∧j<2∧C.length=0)∨(j<n.length∧¬j<2)∨¬j<n.length:=by omega
  have hty:=hty0 j (by omega)
  generalize (g.n++(n.take j).map (pick C))=N at*
  have hs0:=fun k=>QmH (t:=t) (ns:=N) (l:=e) (i:=k)
  have hl0:∀k:Nat,(hnE t N (e.take k)).length≤k:=fun k=>Qt (QmI _ _) (by simp;omega)
  rcases hcase with⟨z1,z2,z3⟩|⟨z1,z2⟩|z1<;>(
   first
   |simp(disch:=omega)only[go_sem,ayS,z3]
   |simp(disch:=omega)only[go_sem,ayS]
   refine Q8 11 M (fun _=>[]) (fun k=>[(6,.arr 3 (eds (g.e++hnE t N (e.take k)))),(7,.box [.sl 5 0 (g.n.length+j),.sl 6 0 (g.e.length+(hnE t N (e.take k)).length)])]) (fun _=>True) (by simp(disch:=omega)only[go_sem,List.take_zero,show hnE t N []=[] from rfl,List.append_nil];try rfl) trivial fun k hk _=>?_
   have hs:=hs0 k
   have hl:=hl0 k
   have b4:(g.e++hnE t N (e.take k)).length=g.e.length+(hnE t N (e.take k)).length:=Qj
   by_cases c2:k<M
   ·have hs:=hs (by omega)
    obtain⟨⟨e0,e1⟩,⟨f0,f1⟩,d0,d1⟩:=hde _ (gt_mem (l:=e) (j:=(k:Int)) (by omega) (by omega))
    have te0:0<t.e.length:=by omega
    have n0:0<N.length:=by omega
    have q1:=tmB (n:=(t.e.length:Int)) e0 (by omega)
    obtain⟨u,hu,eu⟩:=gtI (tmB (n:=(N.length:Int)) f0 (by omega))
    obtain⟨w,hw,ew⟩:=gtI (tmB (n:=(N.length:Int)) d0 (by omega))
    have r:=Qdz h (k:=(gt e (k:Int)).t.tmod t.e.length) (a:=gt N (u:Int)) (b:=gt N (w:Int)) q1 (hty _ (gt_mem (by omega) (by omega))) (hty _ (gt_mem (by omega) (by omega)))
    have hf:(Xh t (gt N (u:Int)) (gt t.e ((gt e (k:Int)).t.tmod t.e.length)).f&&Xh t (gt N (w:Int)) (gt t.e ((gt e (k:Int)).t.tmod t.e.length)).o)=YF t ((gt e (k:Int)).t.tmod t.e.length) (gt N (u:Int)) (gt N (w:Int)):=rfl
    rw[hf] at r
    unfold edM at hs
    rw[eu,ew] at hs
    simp only[tyD] at r
    generalize YF t ((gt e (k:Int)).t.tmod t.e.length) (gt N (u:Int)) (gt N (w:Int))=B at*
    generalize hnE t N (e.take k)=F at*
    rw[b2] at eu ew
    simp(disch:=omega)only[go_sem,ayS,eu,ew]
    refine QQ r ?_
    cases B
    ·rw[if_neg (by decide)] at hs
     simp(disch:=omega)only[go_sem,ayS]
     exact⟨k+1,by rw[hs];simp,by omega,by omega⟩
    ·rw[if_pos rfl] at hs
     simp(disch:=omega)only[go_sem,ayS,b4]
     exact⟨k+1,by rw[hs];simp [eds,edD,QA],by omega,by omega⟩
   ·obtain rfl:k=M:=by omega
    have hcase2:(k<e.length∧¬k<2)∨((k<e.length∧k<2)∧N.length=0)∨((k<e.length∧k<2)∧0<N.length∧t.e.length=0)∨¬k<e.length:=by omega
    rcases hcase2 with⟨y1,y2⟩|⟨⟨y1,y2⟩,y3⟩|⟨⟨y1,y2⟩,y3,y4⟩|y1
    ·first
     |omega
     |(simp(disch:=omega)only[go_sem,ayS,b2,b4];rfl)
    ·first
     |omega
     |(simp(disch:=omega)only[go_sem,ayS,b2,b4];rfl)
    ·first
     |omega
     |(simp(disch:=omega)only[go_sem,ayS,y4,b2,b4];rfl)
    ·first
     |omega
     |(simp(disch:=omega)only[go_sem,ayS,b2,b4];rfl))
theorem QmJ(g:G)(v:Int)(x:E):∀(l:List E)(o:List Slo),Y5 t g v (l++[x]) o=QcE (Y5 t g v l o) (Qa0 t g v x)
 |[],o=>rfl
 |y::l,o=>by rw[List.cons_append,Y5,QmJ g v x l,Y5]
theorem Qwv(s:Slo){l:List Slo}{i:Nat}(h:i<l.length):twS s (l.take (i+1))=(twS s (l.take i)||(decide ((gt l (i:Int)).nd=s.nd)&&decide ((gt l (i:Int)).ak=s.ak))):=by
 unfold twS;rw[Xm h,List.any_append];simp
set_option maxHeartbeats 4000000 in
theorem Qww(h:TyOk t){g:G}(tk:Typ t g)(g1:g.n.length≤100){v:Int}(hv:0≤v∧v≤12){l:List E}(hl:∀x∈l,E8 x):FT 112 [tyD t,gD g,.int .i64 v,.lst 3 (trs l)] (.arr 4 (XI (Js t g v l))):=by
 have ln:=h.ln
 obtain⟨K,a1,a2,a3,a4,a5⟩:=QcH l 3 (g.n.length=0)
 have hM:Js t g v l=Y5 t g v (if g.n.length=0 then [] else l.take 3) []:=rfl
 rw[hM,a5]
 have hS:∀i:Nat,i<l.length→Y5 t g v (l.take (i+1)) []=QcE (Y5 t g v (l.take i) []) (Qa0 t g v (gt l (i:Int))):=fun i hi=>by rw[Xm hi,QmJ]
 have hL:∀i:Nat,i≤K→(Y5 t g v (l.take i) []).length≤i:=fun i hi=>by
  rcases Nat.eq_zero_or_pos g.n.length with z|z
  ·have:=a4 z
   have e:i=0:=by omega
   subst e
   exact Qg _
  ·have:=(QcF (t:=t) (g:=g) hv.1 z (l.take i) [] (fun x hx=>hl x (Qw hx)) ⟨fun x hx=>absurd hx List.not_mem_nil,fun i k hi=>absurd hi (Nat.not_lt_zero _)⟩).2
   simp at this;omega
 refine fo [[],[],[],[]] ?_
 conv in fnC ..=>reduce
 simp(disch:=omega)only[go_sem,ayS,tyD,gD]
 refine Q8 10 K (fun i=>[(9,.sl 2 0 (Y5 t g v (l.take i) []).length)]) (fun i=>[(2,.arr 4 (XI (Y5 t g v (l.take i) [])))]) (fun _=>True) (by simp(disch:=omega)only[go_sem];rfl) trivial fun i hi _=>?_
 have hL:=hL i hi
 by_cases c:i<K
 ·have hS:=hS i (by omega)
  obtain⟨⟨e0,e1⟩,⟨f0,f1⟩,d0,d1⟩:=hl _ (gt_mem (l:=l) (j:=(i:Int)) (by omega) (by omega))
  have g0:0<g.n.length:=by omega
  obtain⟨u,hu,eu⟩:=gtI (tmB (n:=(g.n.length:Int)) e0 (by omega))
  have hty:=tk.n _ (gt_mem (l:=g.n) (j:=(u:Int)) (by omega) (by omega))
  have ra:=Qag h hty
  have h6:=X7 h hty.2
  have w1:IntKind.u8.wrap ((gt l (i:Int)).f.tdiv 16)=(gt l (i:Int)).f.tdiv 16:=by
   rw[Int.tdiv_eq_ediv_of_nonneg f0]
   show ((gt l (i:Int)).f/16)%256=_
   omega
  have w2:0≤(gt l (i:Int)).f.tdiv 16∧(gt l (i:Int)).f.tdiv 16≤15:=by
   rw[Int.tdiv_eq_ediv_of_nonneg f0];omega
  have q1:=tmB (n:=v+1) w2.1 (by omega)
  have q2:=tmB (n:=3) d0 (by decide)
  have hO:Qa0 t g v (gt l (i:Int))=if (Q0 t (gt g.n (u:Int))).length=0 then none else some ⟨u,(gt l (i:Int)).f.tmod (Q0 t (gt g.n (u:Int))).length,((gt l (i:Int)).f.tdiv 16).tmod (v+1)-1,(gt l (i:Int)).o.tmod 3⟩:=by
   unfold Qa0;rw[eu]
  rw[hO] at hS
  clear hO
  generalize Q0 t (gt g.n (u:Int))=A at*
  generalize Y5 t g v (l.take i) []=S at*
  simp only[tyD] at ra
  simp(disch:=omega)only[go_sem,ayS,eu]
  refine QQ ra ?_
  by_cases z:A.length=0
  ·rw[if_pos z] at hS
   have hS:Y5 t g v (l.take (i+1)) []=S:=hS
   simp(disch:=omega)only[go_sem,ayS,z]
   exact⟨i+1,by rw[hS];simp,by omega,by omega⟩
  ·rw[if_neg z] at hS
   have q3:=tmB (n:=(A.length:Int)) f0 (by omega)
   simp(disch:=omega)only[go_sem,ayS,dcF z,w1]
   have hS:Y5 t g v (l.take (i+1)) []=if twS ⟨u,(gt l (i:Int)).f.tmod A.length,((gt l (i:Int)).f.tdiv 16).tmod (v+1)-1,(gt l (i:Int)).o.tmod 3⟩ S=true then S else S++[⟨u,(gt l (i:Int)).f.tmod A.length,((gt l (i:Int)).f.tdiv 16).tmod (v+1)-1,(gt l (i:Int)).o.tmod 3⟩]:=hS
   generalize hx:(⟨u,(gt l (i:Int)).f.tmod A.length,((gt l (i:Int)).f.tdiv 16).tmod (v+1)-1,(gt l (i:Int)).o.tmod 3⟩:Slo)=x at*
   have x1:(u:Int)=x.nd:=by rw[←hx]
   have x2:(gt l (i:Int)).f.tmod A.length=x.ak:=by rw[←hx]
   refine Q8 16 S.length (fun k=>[(15,.bool (twS x (S.take k)))]) (fun _=>[]) (fun _=>True) (by simp(disch:=omega)only[go_sem];rfl) trivial fun k hk _=>?_
   have ht:=fun h=>Qwv x (l:=S) (i:=k) h
   simp(disch:=omega)only[go_sem]
   refine QT (fun c=>?_) (fun c=>?_)
   ·have ht:=ht (by omega)
    cases hB:twS x (S.take k)<;>rw[hB] at ht
    ·by_cases y1:(gt S (k:Int)).nd=x.nd
     ·by_cases y2:(gt S (k:Int)).ak=x.ak
      ·rw[Qe y1,Qe y2] at ht
       have z1:(gt S (k:Int)).nd=u:=by rw[y1,x1]
       have z2:(gt S (k:Int)).ak=(gt l (i:Int)).f.tmod A.length:=by rw[y2,x2]
       simp(disch:=omega)only[go_sem,ayS,slD,z1,z2]
       exact⟨k+1,by rw[ht];simp,by omega,by omega⟩
      ·rw[Qe y1,Qf y2] at ht
       have z1:(gt S (k:Int)).nd=u:=by rw[y1,x1]
       have z2:¬(gt S (k:Int)).ak=(gt l (i:Int)).f.tmod A.length:=by rw[x2];exact y2
       simp(disch:=omega)only[go_sem,ayS,slD,z1,dcF z2]
       exact⟨k+1,by rw[ht];simp,by omega,by omega⟩
     ·rw[Qf y1] at ht
      have z1:¬(gt S (k:Int)).nd=u:=by rw[x1];exact y1
      simp(disch:=omega)only[go_sem,ayS,slD,dcF z1]
      exact⟨k+1,by rw[ht];simp,by omega,by omega⟩
    ·simp(disch:=omega)only[go_sem,ayS]
     exact⟨k+1,by rw[ht];simp,by omega,by omega⟩
   ·obtain rfl:k=S.length:=by omega
    rw[List.take_length]
    cases hB:twS x S<;>rw[hB] at hS
    ·rw[if_neg (by decide)] at hS
     simp(disch:=omega)only[go_sem,ayS]
     exact⟨i+1,by rw[hS,←hx];simp [XI,slD],by omega,by omega⟩
    ·rw[if_pos rfl] at hS
     simp(disch:=omega)only[go_sem,ayS]
     exact⟨i+1,by rw[hS];simp,by omega,by omega⟩
 ·obtain rfl:i=K:=by omega
  have hcase:(i<l.length∧i<3∧g.n.length=0)∨(i<l.length∧¬i<3)∨¬i<l.length:=by omega
  rcases hcase with⟨z1,z2,z3⟩|⟨z1,z2⟩|z1
  ·simp(disch:=omega)only[go_sem,ayS,z3]
  ·simp(disch:=omega)only[go_sem,ayS]
  ·simp(disch:=omega)only[go_sem,ayS]
set_option maxHeartbeats 4000000 in
theorem Qwx(h:TyOk t){p:Pa}(g1:p.g.n.length≤100)(g2:p.g.e.length≤100){x:Q4}(hx:XA x.a∧XA x.b∧XA x.c∧XA x.d):FT 113 [tyD t,paD p,.agg [.int .u8 x.a,.int .u8 x.b,.int .u8 x.c,.int .u8 x.d]] (fbD (foM t p x)):=by
 have ln:=h.ln
 have le:=h.le
 have hp:=h.pos
 obtain⟨⟨a0,a1⟩,⟨b0,b1⟩,⟨c0,c1⟩,d0,d1⟩:=hx
 have r1:=QaJ p.g (by omega) (by omega)
 have r2:=Qst p.g (by omega) (by omega)
 have q1:=tmB (n:=(t.n.length:Int)) b0 (by omega)
 have nl1:(QY 0 p.g.n.length).length=p.g.n.length:=Yp _ _
 have nl2:(QY 0 p.g.e.length).length=p.g.e.length:=Yp _ _
 simp only[gD,gA,mA,idM] at r1 r2
 have hF:foM t p x=if x.a.tmod 4=1 then .no (idM p.g) ⟨p.g.n++[x.b.tmod t.n.length],p.g.e⟩ p.v else if x.a.tmod 4=2 then (if p.g.n.length=0∨t.e.length=0 then .tt else .no (idM p.g) ⟨p.g.n,p.g.e++[⟨x.b.tmod t.e.length,x.c.tmod p.g.n.length,x.d.tmod p.g.n.length⟩]⟩ p.v) else .tt:=rfl
 rw[hF]
 clear hF
 by_cases m1:x.a.tmod 4=1
 ·rw[if_pos m1]
  refine foZ [[(1,none,[],true),(9,none,[1],false)],[(1,none,[],true),(20,none,[1],false)]] ?_
  conv in fnC ..=>reduce
  simp(disch:=omega)only[go_sem,ayS,tyD,paD,paL]
  refine QQ r1 ?_
  simp(disch:=omega)only[go_sem,ayS,m1]
  refine QQ r2 ?_
  simp(disch:=omega)only[go_sem,ayS]
  rfl
 ·rw[if_neg m1]
  by_cases m2:x.a.tmod 4=2
  ·rw[if_pos m2]
   by_cases z:p.g.n.length=0∨t.e.length=0
   ·rw[if_pos z]
    refine foZ [[(1,none,[],true),(9,none,[1],false)],[(1,none,[],true),(20,none,[1],false)]] ?_
    conv in fnC ..=>reduce
    simp(disch:=omega)only[go_sem,ayS,tyD,paD,paL]
    refine QQ r1 ?_
    simp(disch:=omega)only[go_sem,ayS,dcF m1,m2]
    refine QT (fun c=>?_) (fun c=>?_)
    ·simp(disch:=omega)only[go_sem,ayS]
     rfl
    ·simp(disch:=omega)only[go_sem,ayS]
     rfl
   ·rw[if_neg z]
    have q2:=tmB (n:=(t.e.length:Int)) b0 (by omega)
    have q3:=tmB (n:=(p.g.n.length:Int)) c0 (by omega)
    have q4:=tmB (n:=(p.g.n.length:Int)) d0 (by omega)
    refine foZ [[(1,none,[],true),(9,none,[1],false)],[(1,none,[],true),(20,none,[1],false)]] ?_
    conv in fnC ..=>reduce
    simp(disch:=omega)only[go_sem,ayS,tyD,paD,paL]
    refine QQ r1 ?_
    simp(disch:=omega)only[go_sem,ayS,dcF m1,m2]
    refine QQ r2 ?_
    simp(disch:=omega)only[go_sem,ayS]
    rfl
  ·rw[if_neg m2]
   refine foZ [[(1,none,[],true),(9,none,[1],false)],[(1,none,[],true),(20,none,[1],false)]] ?_
   conv in fnC ..=>reduce
   simp(disch:=omega)only[go_sem,ayS,tyD,paD,paL]
   refine QQ r1 ?_
   simp(disch:=omega)only[go_sem,ayS,dcF m1,dcF m2]
   rfl
set_option maxHeartbeats 4000000 in
theorem Qwy(r:Ru)(g1:r.l.g.n.length≤100)(g2:r.l.g.e.length≤100)(g3:r.r.g.n.length≤100)(g4:r.r.g.e.length≤100)(g5:r.k.n.length≤100)(g6:r.k.e.length≤100)(g7:r.i.n.length≤100)(g8:r.i.e.length≤100):FT 114 [Q6 r] (Q6 ⟨r.nm,⟨r.l.g,[],0,[]⟩,⟨r.r.g,[],0,[]⟩,r.k,r.i,r.inj,.tt⟩):=by
 have r1:=QaJ r.l.g (by omega) (by omega)
 have r2:=QaJ r.r.g (by omega) (by omega)
 simp only[gD,gA] at r1 r2
 simp only[Q6,fbD,fbE,cyL,ruL,paD,paL,List.cons_append,List.nil_append]
 refine foZ [[(1,none,[],true),(5,none,[1],true),(9,(some 384),[5],false),(10,none,[1],true),(15,(some 24576),[5,10],false),(16,none,[1],true),(20,(some 786432),[5,10,16],false),(21,none,[1],true),(26,(some 50331648),[5,10,16,21],false),(27,none,[1],true),(31,(some 1610612736),[5,10,16,21,27],false),(32,none,[1],true),(35,(some 17179869184),[5,10,16,21,27,32],false)]] ?_
 conv in fnC ..=>reduce
 simp(disch:=omega)only[go_sem,ayS]
 refine QQ r1 ?_
 simp(disch:=omega)only[go_sem,ayS]
 refine QQ r2 ?_
 simp(disch:=omega)only[go_sem,ayS]
 rfl
set_option maxHeartbeats 8000000 in
theorem Qwz(h:TyOk t){d:RD}(hd:d.ok)(hq:∀x∈d.q,(-128≤x.a∧x.a≤127)∧(-128≤x.b∧x.b≤127)∧(-128≤x.c∧x.c≤127)∧(-128≤x.d∧x.d≤127))(lo:d.or.length≤QS):FT 56 [tyD t,.agg (rdD d)] (Q6 (ruM t d)):=by
 obtain⟨hl,hlv,hlg⟩:PaOk t (rdL t d)∧(rdL t d).v≤3∧(rdL t d).g=pgM t d.l:=QgN h hd.l (q:=d.q) hd.s
 obtain⟨_,g1,g2⟩:=Qec h hd.l
 rw[←hlg] at g1 g2
 have hK:PK (rdL t d).g (rdK t d):=Qj2 hl.g
 have hX:=Qf9 hK
 obtain⟨p1,p2⟩:=QmA (g:=(rdL t d).g) (p:=rdK t d)
 have q1:(rdK t d).n.length≤(rdL t d).g.n.length:=Z5 hK.n
 have q2:(rdK t d).e.length≤(rdL t d).g.e.length:=Z5 hK.e
 have hG:GrOk t (ptG (rdL t d).g (rdK t d)) (rdG t d):=Qmz h hX.va (QgP hK hl.ty) (by omega) (by omega) hd.n hd.e
 have hP1:PermI (rdP t d).n (rdG t d).n.length:=Qed _ hd.or
 have hP2:PermI (rdP t d).e (rdG t d).e.length:=Qed _ hd.or
 have n1:(rdK t d).n.length≤(rdG t d).n.length:=by
  rcases Nat.eq_zero_or_pos (rdK t d).n.length with z|z
  ·omega
  ·have:=(hG.n ((rdK t d).n.length-1) (by omega)).1;omega
 have n2:(rdK t d).e.length≤(rdG t d).e.length:=by
  rcases Nat.eq_zero_or_pos (rdK t d).e.length with z|z
  ·omega
  ·have:=(hG.e ((rdK t d).e.length-1) (by omega)).1;omega
 have lG:=QX hG.v
 have r1:FT 108 [tyD t,.agg [.lst 1 (u8s d.l.n),.lst 3 (trs d.l.e),.lst 3 (trs d.s),.lst 4 (q4s .i8 d.q)]] (paD (rdL t d)):=Qws h hd.l hd.s hq
 have r2:FT 8 [gD (rdL t d).g,.int .u64 d.k] (mA (rdK t d)):=QsC _ d.k hl.g
 have r3:=Qgd (rdL t d).g (rdK t d) hK.sm
 have e3:exR (rdL t d).g (rdK t d)=(ptG (rdL t d).g (rdK t d),rdK t d,0):=by unfold exR;rw[validP_ok.2 hK];rfl
 rw[e3] at r3
 have r4:FT 109 [tyD t,gD (ptG (rdL t d).g (rdK t d)),.agg (rdD d)] (gA (rdG t d)):=Qwu h (QgP hK hl.ty) (by omega) (by omega) hd
 have r5:FT 110 [.int .i64 (rdG t d).n.length,.lst 1 (u8s d.or)] (.arr 1 (QR (rdP t d).n)):=QlB (rdG t d).n.length d.or (by omega) lo hd.or
 have r6:FT 110 [.int .i64 (rdG t d).e.length,.lst 1 (u8s d.or)] (.arr 1 (QR (rdP t d).e)):=QlB (rdG t d).e.length d.or (by omega) lo hd.or
 have r7:FT 111 [gD (rdG t d),mD (rdP t d)] (.tup [gA (rdR t d),.int .i64 0]):=Qu0 (rdG t d) (rdP t d) hG.v hP1 hP2
 have hR:=QmB h hd
 have eR:(ruM t d).r.g=rdR t d:=by unfold ruM;split<;>rfl
 have tR:Typ t (rdR t d):=by rw[←eR];exact hR.rt
 have lR:(rdR t d).n.length≤40∧(rdR t d).e.length≤80:=by rw[←eR];exact QX hR.rg
 have r8:=Qww h tR (by omega) (v:=(rdL t d).v) (by have:=hl.v;omega) hd.sl
 have r9:=Qwx h (p:=rdL t d) (by omega) (by omega) hd.fb
 have hE:ruM t d=if d.pl=true then ⟨Yj 114,⟨(rdL t d).g,[],0,[]⟩,⟨rdR t d,[],0,[]⟩,rdK t d,rdJ t d,d.inj,.tt⟩ else ⟨Yj 114,rdL t d,⟨rdR t d,Js t (rdR t d) (rdL t d).v d.sl,(rdL t d).v,[]⟩,rdK t d,rdJ t d,d.inj,foM t (rdL t d) d.fb⟩:=rfl
 have eJ:rdJ t d=⟨(rdP t d).n.take (rdK t d).n.length,(rdP t d).e.take (rdK t d).e.length⟩:=rfl
 have l1:=hP1.l
 have l2:=hP2.l
 rw[hE,eJ]
 have l3:((rdP t d).n.take (rdK t d).n.length).length=(rdK t d).n.length:=by simp;omega
 have l4:((rdP t d).e.take (rdK t d).e.length).length=(rdK t d).e.length:=by simp;omega
 have r10:=Qwy ⟨Yj 114,rdL t d,⟨rdR t d,Js t (rdR t d) (rdL t d).v d.sl,(rdL t d).v,[]⟩,rdK t d,⟨(rdP t d).n.take (rdK t d).n.length,(rdP t d).e.take (rdK t d).e.length⟩,d.inj,foM t (rdL t d) d.fb⟩ (by simp only;omega) (by simp only;omega) (by simp only;omega) (by simp only;omega) (by simp only;omega) (by simp only;omega) (by simp only;omega) (by simp only;omega)
 clear hE eJ hR eR tR e3 hG hX hK hP1 hP2 hl
 generalize foM t (rdL t d) d.fb=C at*
 generalize Js t (rdR t d) (rdL t d).v d.sl=S at*
 generalize rdR t d=R at*
 generalize rdP t d=Q at*
 generalize rdG t d=G at*
 generalize ptG (rdL t d).g (rdK t d)=X at*
 generalize rdK t d=K at*
 generalize rdL t d=L at*
 simp only[tyD,gD,mD,gA,mA,paD,paL,rdD,Q6,ruL,fbD,fbE,cyL,List.cons_append,List.nil_append] at r1 r2 r3 r4 r5 r6 r7 r8 r9 r10 ⊢
 have hfl:(XI S).all D.flatE=true:=by simp [XI,slD,D.flatE,D.flat0]
 cases hpl:d.pl
 ·rw[if_neg (by decide)]
  refine foZ [[(0,none,[],true),(2,none,[],true),(7,none,[0,2],false)],[(5,none,[],true),(7,(some 64),[5],false),(10,(some 512),[5],false)],[]] ?_
  conv in fnC ..=>reduce
  simp(disch:=omega)only[go_sem,ayS]
  rw[hpl] at r4
  refine QQ r1 ?_
  simp(disch:=omega)only[go_sem,ayS]
  refine QQ r2 ?_
  simp(disch:=omega)only[go_sem,ayS]
  refine QQ r3 ?_
  simp(disch:=omega)only[go_sem,ayS]
  refine QQ r4 ?_
  simp(disch:=omega)only[go_sem,ayS]
  refine QQ r5 ?_
  simp(disch:=omega)only[go_sem,ayS]
  refine QQ r6 ?_
  simp(disch:=omega)only[go_sem,ayS]
  refine QQ r7 ?_
  simp(disch:=omega)only[go_sem,ayS]
  refine QQ r8 ?_
  simp(disch:=omega)only[go_sem,ayS,hfl]
  refine QQ r9 ?_
  simp(disch:=omega)only[go_sem,ayS,hfl]
  have c0:K.n.length≤Q.n.length∧K.e.length≤Q.e.length:=by omega
  by_cases c1:K.n.length=Q.n.length<;>by_cases c2:K.e.length=Q.e.length<;>(
   simp(disch:=omega)only[go_sem,ayS,Nat.sub_zero,p1,p2,c1,c2]
   rfl)
 ·rw[if_pos rfl]
  refine foZ [[(0,none,[],true),(2,none,[],true),(7,none,[0,2],false)],[(5,none,[],true),(7,(some 64),[5],false),(10,(some 512),[5],false)],[]] ?_
  conv in fnC ..=>reduce
  simp(disch:=omega)only[go_sem,ayS]
  rw[hpl] at r4
  refine QQ r1 ?_
  simp(disch:=omega)only[go_sem,ayS]
  refine QQ r2 ?_
  simp(disch:=omega)only[go_sem,ayS]
  refine QQ r3 ?_
  simp(disch:=omega)only[go_sem,ayS]
  refine QQ r4 ?_
  simp(disch:=omega)only[go_sem,ayS]
  refine QQ r5 ?_
  simp(disch:=omega)only[go_sem,ayS]
  refine QQ r6 ?_
  simp(disch:=omega)only[go_sem,ayS]
  refine QQ r7 ?_
  simp(disch:=omega)only[go_sem,ayS]
  refine QQ r8 ?_
  simp(disch:=omega)only[go_sem,ayS,hfl]
  refine QQ r9 ?_
  have c0:K.n.length≤Q.n.length∧K.e.length≤Q.e.length:=by omega
  by_cases c1:K.n.length=Q.n.length<;>by_cases c2:K.e.length=Q.e.length<;>(
   try rw[Qq (by omega:Q.n.length≤K.n.length)] at r10
   try rw[Qq (by omega:Q.e.length≤K.e.length)] at r10
   simp(disch:=omega)only[go_sem,ayS,hfl,Nat.sub_zero,p1,p2,c1,c2]
   refine QQ r10 ?_
   simp(disch:=omega)only[go_sem,ayS]
   try rw[Qq (by omega:Q.n.length≤K.n.length)]
   try rw[Qq (by omega:Q.e.length≤K.e.length)]
   try rfl)
end
section
theorem QgR(l:List Int)(n:Nat):(u8s l).take n=u8s (l.take n):=by simp [u8s,List.map_take]
theorem QgS(l:List E)(n:Nat):(trs l).take n=trs (l.take n):=by simp [trs,List.map_take]
theorem QmK(l:List Pr)(n:Nat):(p8s l).take n=p8s (l.take n):=by simp [p8s,List.map_take]
theorem Qef{α:Type}(l:List α)(b:Nat):l.take (min b l.length)=l.take b:=by
 rcases Nat.le_total b l.length with z|z
 ·rw[Nat.min_eq_left z]
 ·rw[Nat.min_eq_right z,Qq z,Qq (Qg _)]
theorem QwA(d:Dr)(h1:d.n.length≤QS)(h2:d.e.length≤QS):FT 55 [drD d,.int .i64 3,.int .i64 2] (drD ⟨d.n.take 3,d.e.take 2⟩):=by
 unfold QS at h1 h2
 have e1:(if 3<(d.n.length:Int) then (3:Int) else d.n.length).toNat=min 3 d.n.length:=by split<;>omega
 have e2:(if 2<(d.e.length:Int) then (2:Int) else d.e.length).toNat=min 2 d.e.length:=by split<;>omega
 refine fo [[]] ?_
 conv in fnC ..=>reduce
 simp(disch:=omega)only[go_sem,ayS,drD]
 rw[e1,e2,QgR,QgS,Qef,Qef]
def Qa2(ty ed:List Pr)(d:RD)(hn:List Pr)(he:List E):List D:=.lst 2 (p8s ty)::.lst 2 (p8s ed)::(rdD d++[.lst 2 (p8s hn),.lst 3 (trs he)])
def RD.sm(d:RD):RD:=⟨⟨d.l.n.take 3,d.l.e.take 2⟩,d.s,d.q,d.k,d.n,d.e,d.sl,d.pl,d.inj,d.fb,d.or⟩
theorem RD.sm_ok{d:RD}(h:d.ok):d.sm.ok:=⟨⟨fun x hx=>h.l.1 x (Qw hx),fun x hx=>h.l.2 x (Qw hx)⟩,h.s,h.n,h.e,h.sl,h.fb,h.or⟩
set_option maxHeartbeats 8000000 in
theorem QwB{ty ed:List Pr}(hty:∀x∈ty,P8 x)(hed:∀x∈ed,P8 x){d:RD}(hd:d.ok)(hq:∀x∈d.q,(-128≤x.a∧x.a≤127)∧(-128≤x.b∧x.b≤127)∧(-128≤x.c∧x.c≤127)∧(-128≤x.d∧x.d≤127))(lo:d.or.length≤QS)(l1:d.l.n.length≤QS)(l2:d.l.e.length≤QS){hn:List Pr}{he:List E}(hhn:∀x∈hn,P8 x)(hhe:∀x∈he,E8 x)(l3:hn.length≤QS)(l4:he.length≤QS):
  FT 20 [.agg (Qa2 ty ed d hn he)] (.tup [tyD (tyM ty ed),Q6 (ruM (tyM ty ed) d.sm),hsD (hsM (tyM ty ed) (hn.take 6) (he.take 8))]):=by
 have h:=Qmp hty hed
 have r1:=Qwl ty ed hty hed
 have r2:=QwA d.l l1 l2
 have r3:=Qwz h (RD.sm_ok hd) hq lo
 have r4:=Qwt h (n:=hn.take 6) (e:=he.take 8) (fun x hx=>hhn x (Qw hx)) (fun x hx=>hhe x (Qw hx))
 have t1:(hn.take 6).take 8=hn.take 6:=Qq (by simp;omega)
 have t2:(he.take 8).take 10=he.take 8:=Qq (by simp;omega)
 rw[t1,t2] at r4
 unfold QS at l3 l4
 have e1:(if 6<(hn.length:Int) then (6:Int) else hn.length).toNat=min 6 hn.length:=by split<;>omega
 have e2:(if 8<(he.length:Int) then (8:Int) else he.length).toNat=min 8 he.length:=by split<;>omega
 have hs:rdD d.sm=[.lst 1 (u8s (d.l.n.take 3)),.lst 3 (trs (d.l.e.take 2)),.lst 3 (trs d.s),.lst 4 (q4s .i8 d.q),.int .u64 d.k,.lst 1 (u8s d.n),.lst 3 (trs d.e),.lst 3 (trs d.sl),.bool d.pl,.bool d.inj,.int .u8 d.fb.a,.int .u8 d.fb.b,.int .u8 d.fb.c,.int .u8 d.fb.d,.lst 1 (u8s d.or)]:=rfl
 rw[hs] at r3
 clear hs
 generalize hsM (tyM ty ed) (hn.take 6) (he.take 8)=X at*
 generalize ruM (tyM ty ed) d.sm=R at*
 generalize tyM ty ed=t at*
 simp only[tyD,drD,rdD,hsD,hsL,Qa2,Q6,ruL,fbE,cyL,paL,List.cons_append,List.nil_append] at r1 r2 r3 r4 ⊢
 refine foZ [[(17,none,[],true),(20,none,[17],false)],[(0,none,[],true),(4,none,[0],true),(5,(some 0),[4],false),(7,(some 64),[4],false),(8,none,[0],false)]] ?_
 conv in fnC ..=>reduce
 simp(disch:=omega)only[go_sem,ayS]
 refine QQ r1 ?_
 simp(disch:=omega)only[go_sem,ayS]
 refine QQ r2 ?_
 simp(disch:=omega)only[go_sem,ayS,e1,e2,QgR,QgS,QmK,Qef]
 refine QQ r3 ?_
 simp(disch:=omega)only[go_sem,ayS,e1,e2,QgR,QgS,QmK,Qef]
 refine QQ r4 ?_
 simp(disch:=omega)only[go_sem,ayS]
end
theorem QmL(l:List Int)(n:Nat)(hl:l.length≤QS)(hn:n≤1000000):FC Tryz.prog 158 [.lst 1 (QR l),.int .i64 n] (.bool (Y9 l n)) []:=by
 refine fo [] ?_
 conv in fnC ..=>reduce
 unfold QS at hl
 simp(disch:=omega)only[go_sem]
 refine Xj (fun k:Nat=>⟨[(0,.lst 1 (QR l)),(1,.int .i64 n),(5,.int .i64 k)],[],0⟩) (fun k=>k≤n∧∀j:Nat,j<k→(j:Int)∈l) (fun k=>n-k) 0 ?_ ?_ ?_
 ·simp(disch:=omega)only[go_sem]
  rfl
 ·simp
 ·rintro k ⟨hk,ha⟩
  simp(disch:=omega)only[go_sem]
  refine QT (fun c=>?_) (fun c=>?_)
  ·simp(disch:=omega)only[go_sem]
   refine Xj (fun i:Nat=>⟨[(0,.lst 1 (QR l)),(1,.int .i64 n),(5,.int .i64 k),(6,.bool (decide ((k:Int)∈l.take i))),(7,.int .i64 i)],[],0⟩) (fun i=>i≤l.length) (fun i=>l.length-i) 0 ?_ ?_ ?_
   ·simp(disch:=omega)only[go_sem]
    simp
   ·simp
   ·intro i hi
    simp(disch:=omega)only[go_sem]
    refine QT (fun d=>?_) (fun d=>?_)
    ·have ht:=Xm (l:=l) (i:=i) (by omega)
     have hm:decide ((k:Int)∈l.take (i+1))=(decide ((k:Int)∈l.take i)||decide (gt l i=k)):=by
      rw[Bool.eq_iff_iff,ht,QG,Ql,Ql,Ql,Qd,Qm,eq_comm (a:=gt l i)]
     simp(disch:=omega)only[go_sem]
     refine QT (fun e=>?_) (fun e=>?_)
     ·simp(disch:=omega)only[go_sem,e]
      exact⟨i+1,by simp [hm,e],by omega,by omega⟩
     ·simp(disch:=omega)only[go_sem,e]
      exact⟨i+1,by simp [hm,e],by omega,by omega⟩
    ·have hz:l.take i=l:=Qq (by omega)
     simp(disch:=omega)only[go_sem,hz]
     refine XY (fun e=>?_) (fun e=>?_)
     ·simp(disch:=omega)only[go_sem]
      have:Y9 l n=false:=by
       rw[←Bool.not_eq_true,Y9,Qs]
       intro h
       have:=h k (by simp;omega)
       simp at this
       exact e this
      rw[this]
     ·simp(disch:=omega)only[go_sem]
      refine⟨k+1,by simp,⟨by omega,fun j hj=>?_⟩,by omega⟩
      by_cases hjk:j=k
      ·subst hjk;exact e
      ·exact ha j (by omega)
  ·simp(disch:=omega)only[go_sem]
   have:Y9 l n=true:=by
    rw[Y9,Qs]
    intro j hj
    simpa using ha j (by simp at hj;omega)
   rw[this]
theorem QwC(a b:G)(m:Mo):FC Tryz.prog 73 [gD a,gD b,mD m] (.bool (QaH a b m)) []:=by
 refine fo [] ?_
 conv in fnC ..=>reduce
 have rv:=Qcj a b m
 have hl:=@Qjx a b m
 have hd:QaH a b m=(decide (Yc a b m=0)&&(Y9 m.n b.n.length&&Y9 m.e b.e.length)):=rfl
 rw[hd]
 generalize Yc a b m=v at*
 obtain⟨an,ae⟩:=a
 obtain⟨bn,be⟩:=b
 obtain⟨mn,me⟩:=m
 simp only[gD,mD] at rv ⊢
 simp(disch:=omega)only[go_sem]
 refine QQ rv ?_
 simp(disch:=omega)only[go_sem]
 refine QT (fun c=>?_) (fun c=>?_)
 ·subst c
  obtain⟨l1,l2,_,_,l3,l4⟩:=hl rfl
  simp only at l1 l2 l3 l4
  have r1:=QmL mn bn.length (by unfold QS;omega) (by omega)
  have r2:=QmL me be.length (by unfold QS;omega) (by omega)
  generalize Y9 mn bn.length=o1 at*
  generalize Y9 me be.length=o2 at*
  simp(disch:=omega)only[go_sem]
  refine QQ r1 ?_
  cases o1
  ·simp(disch:=omega)only[go_sem]
   try simp
  ·simp(disch:=omega)only[go_sem]
   refine QQ r2 ?_
   simp(disch:=omega)only[go_sem]
   try simp
 ·simp(disch:=omega)only[go_sem,c]
  try simp
theorem IsoH.inj{a b:Hs}{m:Mo}(h:IsoH a b m):ZA a.g b.g m=true∧QaH a.g b.g m=true:=by
 have hv:=mok.2 h.ok
 refine⟨by unfold ZA;rw[hv];simp [Yy,h.n.nodup,h.e.nodup],?_⟩
 have key:∀{l:List Int}{n:Nat},PermI l n→Y9 l n=true:=fun {l n} hp=>by
  unfold Y9
  rw[Qs]
  intro k hk
  obtain⟨i,hi,e⟩:=hp.cov (List.mem_range.1 hk)
  rw[Ql,←e]
  exact gt_mem (by omega) (by rw[hp.l];omega)
 unfold QaH
 rw[hv,key h.n,key h.e]
 rfl
theorem QwD{a b:Hs}{m:Mo}(h:IsoH a b m)(va:a.v.length=a.g.n.length)(vb:b.v.length=b.g.n.length)(ra:∀x∈a.v,x.length≤1000):FT 27 [hsD a,hsD b,mD m] (.bool true):=by
 have la:=QX h.ok.va
 have lb:=QX h.ok.vb
 have ln:=h.ok.ln
 have le:=h.ok.le
 have r1:=Qkf a.g b.g m (by unfold QS;omega) (by unfold QS;omega)
 have r2:=QwC a.g b.g m
 rw[h.inj.1] at r1
 rw[h.inj.2] at r2
 simp only[gD,mD] at r1 r2
 refine fo [[]] ?_
 conv in fnC ..=>reduce
 simp(disch:=omega)only[go_sem,ayS,hsD,hsL,mD]
 refine QQ r1 ?_
 simp(disch:=omega)only[go_sem,ayS]
 refine QQ r2 ?_
 simp(disch:=omega)only[go_sem,ayS]
 refine Xb 7 a.v.length 0 rfl (by omega) fun i _ hi=>?_
 simp(disch:=omega)only[go_sem]
 refine QT (fun c=>?_) (fun c=>?_)
 ·have b1:=(h.ok.nd i (by omega)).1
  have r3:=QrG (gt a.v (i:Int)) (gt b.v (gt m.n (i:Int))) (by have:=ra _ (gt_mem (l:=a.v) (j:=(i:Int)) (by omega) (by omega));unfold QS;omega)
  rw[Qe (h.v i (by omega))] at r3
  simp(disch:=omega)only[go_sem,ayS]
  refine QQ r3 ?_
  simp(disch:=omega)only[go_sem,ayS]
  exact⟨i+1,by simp,by omega,by omega⟩
 ·simp(disch:=omega)only[go_sem,ayS]
section
theorem QwE{l:List E}{i:Nat}(h:i<l.length)(a b:Int):btR (l.take (i+1)) a b=if (gt l (i:Int)).f=a∧(gt l (i:Int)).o=b then btR (l.take i) a b++[(gt l (i:Int)).t] else btR (l.take i) a b:=by
 unfold btR
 rw[Xm h,List.filter_append,List.map_append]
 by_cases c:(gt l (i:Int)).f=a∧(gt l (i:Int)).o=b
 ·rw[if_pos c];simp [c.1,c.2]
 ·rw[if_neg c]
  have:¬((gt l (i:Int)).f=a∧(gt l (i:Int)).o=b):=c
  simp [List.filter_cons,this]
theorem QmM(l:List E)(a b:Int):(btR l a b).length≤l.length:=by
 unfold btR;rw[QC];exact List.length_filter_le _ _
theorem Qeg(g:G)(a b:Int)(h1:g.n.length≤1000)(h2:g.e.length≤1000):FT 245 [gD g,.int .i64 a,.int .i64 b] (.arr 1 (QR (btL g a b))):=by
 refine fo [] ?_
 conv in fnC ..=>reduce
 have hb:btL g a b=srt (btR g.e a b):=rfl
 rw[hb]
 simp(disch:=omega)only[go_sem,ayS,gD]
 refine Q8 13 g.e.length (fun i=>[(7,.sl 0 0 (btR (g.e.take i) a b).length)]) (fun i=>[(0,.arr 1 (QR (btR (g.e.take i) a b)))]) (fun _=>True) (by simp(disch:=omega)only[go_sem];rfl) trivial fun i hi _=>?_
 have hl:=QmM (g.e.take i) a b
 rw[List.length_take_of_le hi] at hl
 have hs:=fun h=>QwE (l:=g.e) (i:=i) h a b
 simp(disch:=omega)only[go_sem]
 refine QT (fun c=>?_) (fun c=>?_)
 ·have hs:=hs (by omega)
  by_cases c1:(gt g.e (i:Int)).f=a
  ·by_cases c2:(gt g.e (i:Int)).o=b
   ·rw[if_pos ⟨c1,c2⟩] at hs
    simp(disch:=omega)only[go_sem,ayS,c1,c2]
    exact⟨i+1,by rw[hs];simp [QR],by omega,by omega⟩
   ·rw[if_neg fun z=>c2 z.2] at hs
    simp(disch:=omega)only[go_sem,ayS,c1,dcF c2]
    exact⟨i+1,by rw[hs];simp,by omega,by omega⟩
  ·rw[if_neg fun z=>c1 z.1] at hs
   simp(disch:=omega)only[go_sem,ayS,dcF c1]
   exact⟨i+1,by rw[hs];simp,by omega,by omega⟩
 ·obtain rfl:i=g.e.length:=by omega
  rw[List.take_length] at*
  simp(disch:=omega)only[go_sem,ayS]
  refine QQ (Qcl (btR g.e a b) (by unfold QS;omega)) ?_
  have hz:=X6 (l:=btR g.e a b)
  simp(disch:=omega)only[go_sem,ayS,hz]
def hfR(a b:Hs)(N:List Int):D:=.ref (hsL a++(hsL b++[.lst 1 (QR N)]))
def hfB(a b:Hs)(N:List Int):D:=.box (hsL a++(hsL b++[.arr 1 (QR N)]))
variable {a b:Hs}
theorem QwF(h1:a.g.n.length≤100)(h2:a.g.e.length≤100)(h3:b.g.n.length≤100)(h4:b.g.e.length≤100)(va:a.v.length=a.g.n.length)(vb:b.v.length=b.g.n.length)(ra:∀x∈a.v,x.length≤100)(N:List Int)(hN:N.length<a.g.n.length){k:Nat}(hk:k<b.g.n.length):FT 152 [hfR a b N,.int .i64 k] (.bool (XM a b N k)):=by
 have r1:=Zw N (k:Int) (by unfold QS;omega)
 have r2:=ZC (gt a.v (N.length:Int)) (gt b.v (k:Int)) (by have:=ra _ (gt_mem (l:=a.v) (j:=(N.length:Int)) (by omega) (by omega));unfold QS;omega)
 have r3:=Z4 N (by omega)
 have hL:(N++[(k:Int)]).length=N.length+1:=by simp
 unfold XM
 by_cases c1:(k:Int)∈N
 ·rw[Qe c1]
  refine fo [[],[(7,none,[],true),(12,(some 3840),[7],false),(26,none,[],true),(31,(some 2013790207),[26],false)]] ?_
  conv in fnC ..=>reduce
  simp(disch:=omega)only[go_sem,ayS,hfR,hsL]
  refine QQ r1 ?_
  simp(disch:=omega)only[go_sem,ayS,c1]
  try rfl
 ·rw[Qf c1]
  by_cases c2:gt a.g.n (N.length:Int)=gt b.g.n (k:Int)
  ·rw[Qe c2]
   by_cases c3:gt a.v (N.length:Int)=gt b.v (k:Int)
   ·rw[Qe c3]
    rw[Qe c3] at r2
    have hB1:(∀j:Nat,j<N.length+1→hfJ a b N k j=true)→(List.range (N.length+1)).all (hfJ a b N k)=true:=fun h=>Qs.2 fun j hj=>h j (List.mem_range.1 hj)
    have hB2:∀j:Nat,j<N.length+1→hfJ a b N k j=false→(List.range (N.length+1)).all (hfJ a b N k)=false:=fun j hj h=>by
     rw[←Bool.not_eq_true,Qs]
     intro h2
     have:=h2 j (List.mem_range.2 hj)
     rw[h] at this;cases this
    generalize (List.range (N.length+1)).all (hfJ a b N k)=B at*
    refine fo [[],[(7,none,[],true),(12,(some 3840),[7],false),(26,none,[],true),(31,(some 2013790207),[26],false)]] ?_
    conv in fnC ..=>reduce
    simp(disch:=omega)only[go_sem,ayS,hfR,hsL]
    refine QQ r1 ?_
    simp(disch:=omega)only[go_sem,ayS,c1]
    refine QQ r2 ?_
    simp(disch:=omega)only[go_sem,ayS]
    refine QQ r3 ?_
    simp(disch:=omega)only[go_sem,ayS]
    refine Yw (fun i:Nat=>[(69,.int .i64 i)]) (fun _=>[]) (fun i=>i≤N.length+1∧∀j:Nat,j<i→hfJ a b N k j=true) (fun i=>N.length+1-i) 0 rfl ⟨Nat.zero_le _,fun j hj=>absurd hj (Nat.not_lt_zero _)⟩ fun i hI=>?_
    obtain⟨hi,ha⟩:=hI
    have bl:∀(g:G)(x y:Int),(btL g x y).length≤g.e.length:=fun g x y=>by
     unfold btL;rw[X6];exact QmM _ _ _
    simp(disch:=omega)only[go_sem]
    refine QT (fun c=>?_) (fun c=>?_)
    ·have hJ:hfJ a b N k i=(decide (btL a.g (i:Int) N.length=btL b.g (gt (N++[(k:Int)]) (i:Int)) k)&&decide (btL a.g N.length (i:Int)=btL b.g k (gt (N++[(k:Int)]) (i:Int)))):=rfl
     have s1:=Qeg a.g (i:Int) N.length (by omega) (by omega)
     have s2:=Qeg b.g (gt (N++[(k:Int)]) (i:Int)) k (by omega) (by omega)
     have s3:=Qeg a.g N.length (i:Int) (by omega) (by omega)
     have s4:=Qeg b.g k (gt (N++[(k:Int)]) (i:Int)) (by omega) (by omega)
     have b1:=bl a.g (i:Int) N.length
     have b2:=bl b.g (gt (N++[(k:Int)]) (i:Int)) k
     have b3:=bl a.g N.length (i:Int)
     have b4:=bl b.g k (gt (N++[(k:Int)]) (i:Int))
     have s5:=ZC (btL a.g (i:Int) N.length) (btL b.g (gt (N++[(k:Int)]) (i:Int)) k) (by unfold QS;omega)
     have s6:=ZC (btL a.g N.length (i:Int)) (btL b.g k (gt (N++[(k:Int)]) (i:Int))) (by unfold QS;omega)
     generalize btL a.g (i:Int) N.length=A1 at*
     generalize btL b.g (gt (N++[(k:Int)]) (i:Int)) k=A2 at*
     generalize btL a.g N.length (i:Int)=A3 at*
     generalize btL b.g k (gt (N++[(k:Int)]) (i:Int))=A4 at*
     simp only[gD] at s1 s2 s3 s4
     simp(disch:=omega)only[go_sem,ayS]
     refine QQ s1 ?_
     simp(disch:=omega)only[go_sem,ayS]
     refine QQ s2 ?_
     simp(disch:=omega)only[go_sem,ayS]
     refine QQ s5 ?_
     by_cases d1:A1=A2
     ·rw[Qe d1]
      simp(disch:=omega)only[go_sem,ayS]
      refine QQ s3 ?_
      simp(disch:=omega)only[go_sem,ayS]
      refine QQ s4 ?_
      simp(disch:=omega)only[go_sem,ayS]
      refine QQ s6 ?_
      by_cases d2:A3=A4
      ·rw[Qe d2]
       simp(disch:=omega)only[go_sem,ayS]
       refine⟨i+1,by simp,⟨by omega,fun j hj=>?_⟩,by omega⟩
       by_cases e:j=i
       ·rw[e,hJ,Qe d1,Qe d2];rfl
       ·exact ha j (by omega)
      ·rw[Qf d2]
       rw[Qf d2,Bool.and_false] at hJ
       simp(disch:=omega)only[go_sem,ayS,hB2 i (by omega) hJ]
     ·rw[Qf d1]
      rw[Qf d1,Bool.false_and] at hJ
      simp(disch:=omega)only[go_sem,ayS,hB2 i (by omega) hJ]
    ·simp(disch:=omega)only[go_sem,ayS,hB1 fun j hj=>ha j (by omega)]
   ·rw[Qf c3]
    rw[Qf c3] at r2
    refine fo [[],[(7,none,[],true),(12,(some 3840),[7],false),(26,none,[],true),(31,(some 2013790207),[26],false)]] ?_
    conv in fnC ..=>reduce
    simp(disch:=omega)only[go_sem,ayS,hfR,hsL]
    refine QQ r1 ?_
    simp(disch:=omega)only[go_sem,ayS,c1]
    refine QQ r2 ?_
    simp(disch:=omega)only[go_sem,ayS]
  ·rw[Qf c2]
   refine fo [[],[(7,none,[],true),(12,(some 3840),[7],false),(26,none,[],true),(31,(some 2013790207),[26],false)]] ?_
   conv in fnC ..=>reduce
   simp(disch:=omega)only[go_sem,ayS,hfR,hsL]
   refine QQ r1 ?_
   simp(disch:=omega)only[go_sem,ayS,c1]
set_option maxHeartbeats 4000000 in
theorem QwG(h1:a.g.n.length≤100)(h2:a.g.e.length≤100)(h3:b.g.n.length≤100)(h4:b.g.e.length≤100)(va:a.v.length=a.g.n.length)(vb:b.v.length=b.g.n.length)(ra:∀x∈a.v,x.length≤100):∀(n:Nat)(N:List Int),N.length+n=a.g.n.length→
  FC Tryz.prog 69 [hfB a b N] (.bool (hfd a b n N).isSome) [(0,hfB a b ((hfd a b n N).getD N))]:=by
 intro n
 induction n with
 |zero=>
  intro N hn
  refine fo [[],[]] ?_
  conv in fnC ..=>reduce
  simp(disch:=omega)only[go_sem,ayS,hfB,hsL,hfd]
  rfl
 |succ n ih=>
  intro N hn
  have hR1:(∀k:Nat,k<b.g.n.length→(if XM a b N k=true then hfd a b n (N++[(k:Int)]) else none)=none)→hfd a b (n+1) N=none:=fun h=>by
   unfold hfd
   rw[List.findSome?_eq_none_iff]
   intro x hx
   obtain⟨h0,h1⟩:=nums_mem.1 hx
   have:=h x.toNat (by omega)
   rwa [Int.toNat_of_nonneg h0] at this
  have hR2:∀k:Nat,k<b.g.n.length→(∀j:Nat,j<k→(if XM a b N j=true then hfd a b n (N++[(j:Int)]) else none)=none)→∀M,XM a b N k=true→hfd a b n (N++[(k:Int)])=some M→hfd a b (n+1) N=some M:=fun k hk h M h1 h2=>by
   unfold hfd
   rw[List.findSome?_eq_some_iff]
   refine⟨QY 0 k,k,(QY 0 b.g.n.length).drop (k+1),?_,by rw[if_pos h1];exact h2,fun x hx=>?_⟩
   ·have hl:(QY 0 b.g.n.length).length=b.g.n.length:=Yp _ _
    have e1:QY 0 k=(QY 0 b.g.n.length).take k:=by
     refine List.ext_getElem (by simp [QY];omega) fun i h1 h2=>?_
     simp [QY]
    have e2:(k:Int)=(QY 0 b.g.n.length)[k]'(by rw[hl];exact hk):=by simp [QY]
    rw[e1]
    conv=>rhs;rw[e2]
    rw[←List.drop_eq_getElem_cons,List.take_append_drop]
   ·obtain⟨h0,h3⟩:=nums_mem.1 hx
    have:=h x.toNat (by omega)
    rwa [Int.toNat_of_nonneg h0] at this
  generalize hfd a b (n+1) N=R at*
  refine fo [[],[]] ?_
  conv in fnC ..=>reduce
  simp(disch:=omega)only[go_sem,ayS,hfB,hsL]
  refine Yw (fun s:Nat×List Int=>[(24,.int .i64 s.1)]) (fun s=>[(0,.arr 1 (QR s.2))]) (fun s=>s.1≤b.g.n.length∧N.length≤s.2.length∧s.2.take N.length=N∧∀j:Nat,j<s.1→(if XM a b N j=true then hfd a b n (N++[(j:Int)]) else none)=none) (fun s=>b.g.n.length-s.1) (0,N) (by simp(disch:=omega)only[go_sem];rfl) ⟨Nat.zero_le _,Qg _,List.take_length,fun j hj=>absurd hj (Nat.not_lt_zero _)⟩ ?_
  rintro⟨k,xs⟩ ⟨hk,hx1,htk,hno⟩
  simp only at hk hx1 htk hno
  have hxs:(xs=N∧N.length=xs.length)∨N.length<xs.length:=by
   by_cases e:N.length=xs.length
   ·rw[e,List.take_length] at htk;exact .inl ⟨htk,e⟩
   ·exact .inr (by omega)
  simp(disch:=omega)only[go_sem]
  refine QT (fun c=>?_) (fun c=>?_)
  ·have rf:=QwF h1 h2 h3 h4 va vb ra N (by omega) (k:=k) (by omega)
   have ri:=ih (N++[(k:Int)]) (by simp;omega)
   have hno':(if XM a b N k=true then hfd a b n (N++[(k:Int)]) else none)=none→∀j:Nat,j<k+1→(if XM a b N j=true then hfd a b n (N++[(j:Int)]) else none)=none:=fun h j hj=>by
    by_cases e:j=k
    ·rw[e];exact h
    ·exact hno j (by omega)
   have hy:=hR2 k (by omega) hno
   clear hR1 hR2 hno
   generalize hfd a b n (N++[(k:Int)])=Q at*
   simp only[hfR,hfB,hsL,List.cons_append,List.nil_append] at rf ri
   cases c1:XM a b N k<;>rw[c1] at rf
   ·rcases hxs with⟨e,z⟩|z
    ·rw[e]
     simp(disch:=omega)only[go_sem,ayS]
     refine QQ rf ?_
     simp(disch:=omega)only[go_sem,ayS]
     exact⟨(k+1,N),by simp,⟨by simp only;omega,Qg _,List.take_length,hno' (by rw[c1];rfl)⟩,by simp only;omega⟩
    ·simp(disch:=omega)only[go_sem,ayS,htk]
     refine QQ rf ?_
     simp(disch:=omega)only[go_sem,ayS]
     exact⟨(k+1,xs),by simp,⟨by simp only;omega,hx1,htk,hno' (by rw[c1];rfl)⟩,by simp only;omega⟩
   ·rw[if_pos c1] at hno'
    cases Q with
    |none=>
     have hno':=hno' rfl
     simp only[Option.isSome_none,Option.getD_none] at ri
     rcases hxs with⟨e,z⟩|z
     ·rw[e]
      simp(disch:=omega)only[go_sem,ayS]
      refine QQ rf ?_
      simp(disch:=omega)only[go_sem,ayS]
      refine QQ ri ?_
      simp(disch:=omega)only[go_sem,ayS,Nat.sub_zero]
      exact⟨(k+1,N++[(k:Int)]),by simp,⟨by simp only;omega,by simp,by simp,hno'⟩,by simp only;omega⟩
     ·simp(disch:=omega)only[go_sem,ayS,htk]
      refine QQ rf ?_
      simp(disch:=omega)only[go_sem,ayS,htk]
      refine QQ ri ?_
      simp(disch:=omega)only[go_sem,ayS,Nat.sub_zero]
      exact⟨(k+1,N++[(k:Int)]),by simp,⟨by simp only;omega,by simp,by simp,hno'⟩,by simp only;omega⟩
    |some M=>
     have hy:=hy M c1 rfl
     simp only[Option.isSome_some,Option.getD_some] at ri
     rcases hxs with⟨e,z⟩|z
     ·rw[e]
      simp(disch:=omega)only[go_sem,ayS]
      refine QQ rf ?_
      simp(disch:=omega)only[go_sem,ayS]
      refine QQ ri ?_
      simp(disch:=omega)only[go_sem,ayS,hy]
      rfl
     ·simp(disch:=omega)only[go_sem,ayS,htk]
      refine QQ rf ?_
      simp(disch:=omega)only[go_sem,ayS,htk]
      refine QQ ri ?_
      simp(disch:=omega)only[go_sem,ayS,hy]
      rfl
  ·have hz:=hR1 fun j hj=>hno j (by omega)
   rcases hxs with⟨e,z⟩|z
   ·rw[e]
    simp(disch:=omega)only[go_sem,ayS,hz]
    rfl
   ·simp(disch:=omega)only[go_sem,ayS,hz,htk]
    rfl
end
section
variable {t:Ty}
def heO(b:Hs)(w:E)(o:List Int):Option Int:=(QY 0 b.g.e.length).find? fun k=>decide (gt b.g.e k=w)&&!decide (k∈o)
def heW(a:Hs)(N:List Int)(i:Nat):E:=⟨(gt a.g.e (i:Int)).t,gt N (gt a.g.e (i:Int)).f,gt N (gt a.g.e (i:Int)).o⟩
def heL(a b:Hs)(N:List Int):Nat→List Int
 |0=>[]
 |i+1=>heL a b N i++(heO b (heW a N i) (heL a b N i)).toList
theorem QmN(a b:Hs)(N:List Int):∀i:Nat,(heL a b N i).length≤i
 |0=>Qg _
 |i+1=>by
  have:=QmN a b N i
  rw[heL,Qj]
  have:(heO b (heW a N i) (heL a b N i)).toList.length≤1:=by cases heO b (heW a N i) (heL a b N i)<;>simp
  omega
set_option maxHeartbeats 4000000 in
theorem QwH(h:TyOk t){a b:Hs}(ha:HsOk t a)(hb:HsOk t b)(la:a.g.n.length≤8)(ln:a.g.n.length=b.g.n.length)(le:a.g.e.length=b.g.e.length){N:List Int}(hN:hfd a b a.g.n.length []=some N):FT 25 [tyD t,hsD a,hsD b] (.tup [.agg [.arr 1 (QR N),.arr 1 (QR (heL a b N a.g.e.length))],.int .i64 0]):=by
 have lA:=QX ha.g
 have lB:=QX hb.g
 have va:=ha.ln
 have vb:=hb.ln
 have r1:=Qkz h ha
 have r2:=Qkz h hb
 have ra:∀x∈a.v,x.length≤100:=fun x hx=>by
  obtain⟨i,hi,rfl⟩:=Xk hx
  have h1:=ha.vl i (by omega)
  have h2:=X7 h (ha.ty.n _ (gt_mem (l:=a.g.n) (j:=(i:Int)) (by omega) (by omega))).2
  omega
 have r3:=QwG (a:=a) (b:=b) (by omega) (by omega) (by omega) (by omega) va vb ra a.g.n.length [] (by simp)
 rw[hN] at r3
 obtain⟨lN,_⟩:=Ql7 _ hN
 simp only[List.length_nil,Nat.zero_add] at lN
 simp only[Option.isSome_some,Option.getD_some,hfB,hsL,List.cons_append,List.nil_append] at r3
 simp only[tyD,hsD,hsL] at r1 r2
 have ve:=fun (i:Nat) (hi:i<a.g.e.length)=>Zj ha.g (i:=i) (by omega)
 refine fo [[]] ?_
 conv in fnC ..=>reduce
 simp(disch:=omega)only[go_sem,ayS,tyD,hsD,hsL]
 refine QQ r1 ?_
 simp(disch:=omega)only[go_sem,ayS]
 refine QQ r2 ?_
 simp(disch:=omega)only[go_sem,ayS]
 refine QQ r3 ?_
 simp(disch:=omega)only[go_sem,ayS]
 refine Q8 81 a.g.e.length (fun _=>[]) (fun i=>[(6,.arr 1 (QR (heL a b N i))),(7,.box [.sl 4 0 N.length,.sl 6 0 (heL a b N i).length])]) (fun _=>True) (by simp(disch:=omega)only[go_sem];rfl) trivial fun i hi _=>?_
 have hl:=QmN a b N i
 simp(disch:=omega)only[go_sem]
 refine QT (fun c=>?_) (fun c=>?_)
 ·obtain⟨_,⟨f0,f1⟩,o0,o1⟩:=ve i (by omega)
  have hS:heL a b N (i+1)=heL a b N i++(heO b (heW a N i) (heL a b N i)).toList:=rfl
  have hW:heW a N i=⟨(gt a.g.e (i:Int)).t,gt N (gt a.g.e (i:Int)).f,gt N (gt a.g.e (i:Int)).o⟩:=rfl
  have hO1:(∀k:Nat,k<b.g.e.length→(decide (gt b.g.e (k:Int)=heW a N i)&&!decide ((k:Int)∈heL a b N i))=false)→heO b (heW a N i) (heL a b N i)=none:=fun h=>by
   unfold heO
   rw[List.find?_eq_none]
   intro x hx
   obtain⟨h0,h1⟩:=nums_mem.1 hx
   have:=h x.toNat (by omega)
   rw[Int.toNat_of_nonneg h0] at this
   rw[this];decide
  have hO2:∀k:Nat,k<b.g.e.length→(∀j:Nat,j<k→(decide (gt b.g.e (j:Int)=heW a N i)&&!decide ((j:Int)∈heL a b N i))=false)→(decide (gt b.g.e (k:Int)=heW a N i)&&!decide ((k:Int)∈heL a b N i))=true→heO b (heW a N i) (heL a b N i)=some (k:Int):=fun k hk h h2=>by
   unfold heO
   rw[List.find?_eq_some_iff_append]
   refine⟨h2,QY 0 k,(QY 0 b.g.e.length).drop (k+1),?_,fun x hx=>?_⟩
   ·have hl:(QY 0 b.g.e.length).length=b.g.e.length:=Yp _ _
    have e1:QY 0 k=(QY 0 b.g.e.length).take k:=by
     refine List.ext_getElem (by simp [QY];omega) fun i h1 h2=>?_
     simp [QY]
    have e2:(k:Int)=(QY 0 b.g.e.length)[k]'(by rw[hl];exact hk):=by simp [QY]
    rw[e1]
    conv=>rhs;rw[e2]
    rw[←List.drop_eq_getElem_cons,List.take_append_drop]
   ·obtain⟨h0,h3⟩:=nums_mem.1 hx
    have:=h x.toNat (by omega)
    rw[Int.toNat_of_nonneg h0] at this
    rw[this];rfl
  rw[hW] at hO1 hO2 hS
  generalize heO b ⟨(gt a.g.e (i:Int)).t,gt N (gt a.g.e (i:Int)).f,gt N (gt a.g.e (i:Int)).o⟩ (heL a b N i)=O at*
  generalize heL a b N i=L at*
  simp(disch:=omega)only[go_sem,ayS]
  refine Yw (fun k:Nat=>[(108,.int .i64 k)]) (fun _=>[]) (fun k=>k≤b.g.e.length∧∀j:Nat,j<k→(decide (gt b.g.e (j:Int)=⟨(gt a.g.e (i:Int)).t,gt N (gt a.g.e (i:Int)).f,gt N (gt a.g.e (i:Int)).o⟩)&&!decide ((j:Int)∈L))=false) (fun k=>b.g.e.length-k) 0 (by simp(disch:=omega)only[go_sem];rfl) ⟨Nat.zero_le _,fun j hj=>absurd hj (Nat.not_lt_zero _)⟩ fun k hk=>?_
  obtain⟨hk,hno⟩:=hk
  simp(disch:=omega)only[go_sem]
  refine QT (fun c=>?_) (fun c=>?_)
  ·have hE:decide (gt b.g.e (k:Int)=⟨(gt a.g.e (i:Int)).t,gt N (gt a.g.e (i:Int)).f,gt N (gt a.g.e (i:Int)).o⟩)=(decide ((gt b.g.e (k:Int)).t=(gt a.g.e (i:Int)).t)&&(decide ((gt b.g.e (k:Int)).f=gt N (gt a.g.e (i:Int)).f)&&decide ((gt b.g.e (k:Int)).o=gt N (gt a.g.e (i:Int)).o))):=by
    generalize gt b.g.e (k:Int)=y
    obtain⟨y1,y2,y3⟩:=y
    simp [E.mk.injEq,Bool.and_assoc]
   have rc:=Zw L (k:Int) (by unfold QS;omega)
   have hy:=hO2 k (by omega) hno
   rw[hE] at hy
   have hno':((decide ((gt b.g.e (k:Int)).t=(gt a.g.e (i:Int)).t)&&(decide ((gt b.g.e (k:Int)).f=gt N (gt a.g.e (i:Int)).f)&&decide ((gt b.g.e (k:Int)).o=gt N (gt a.g.e (i:Int)).o)))&&!decide ((k:Int)∈L))=false→∀j:Nat,j<k+1→(decide (gt b.g.e (j:Int)=⟨(gt a.g.e (i:Int)).t,gt N (gt a.g.e (i:Int)).f,gt N (gt a.g.e (i:Int)).o⟩)&&!decide ((j:Int)∈L))=false:=fun h j hj=>by
    by_cases e:j=k
    ·rw[e,hE];exact h
    ·exact hno j (by omega)
   clear hno hO1 hO2 hE
   simp(disch:=omega)only[go_sem,ayS]
   refine QaF (fun c=>?_) (fun c=>?_)
   ·rw[c] at hy hno'
    simp(disch:=omega)only[go_sem,ayS,c]
    refine QQ rc ?_
    cases d:decide ((k:Int)∈L)<;>rw[d] at hy hno'
    ·have hy:=hy rfl
     rw[hy] at hS
     simp(disch:=omega)only[go_sem,ayS]
     exact⟨i+1,by rw[hS];simp [QR],by omega,by omega⟩
    ·simp(disch:=omega)only[go_sem,ayS]
     exact⟨k+1,by simp,⟨by omega,hno' rfl⟩,by omega⟩
   ·rw[c,Bool.false_and] at hno'
    simp(disch:=omega)only[go_sem,ayS,c]
    exact⟨k+1,by simp,⟨by omega,hno' rfl⟩,by omega⟩
  ·have hz:=hO1 fun j hj=>hno j (by omega)
   rw[hz] at hS
   simp(disch:=omega)only[go_sem,ayS]
   exact⟨i+1,by rw[hS];simp,by omega,by omega⟩
 ·obtain rfl:i=a.g.e.length:=by omega
  simp(disch:=omega)only[go_sem,ayS]
theorem QwI(ht:TyOk t){p:Pa}(hp:PaOk t p)(h1:p.g.n.length≤3)(h2:p.g.e.length≤2){x:Q4}(hx:XA x.a∧XA x.b∧XA x.c∧XA x.d):FbS p.g (foM t p x):=by
 have h:=Qmx ht hp (by omega) (by omega) hx
 have nl:(idM p.g).n.length=p.g.n.length∧(idM p.g).e.length=p.g.e.length:=by simp [idM,Yp]
 unfold foM at*
 by_cases c1:x.a.tmod 4=1
 ·rw[if_pos c1] at*
  exact⟨h.2.2.1.ok.vb,by omega,by simp;omega,by simp,by simp⟩
 ·rw[if_neg c1] at*
  by_cases c2:x.a.tmod 4=2
  ·rw[if_pos c2] at*
   by_cases c3:p.g.n.length=0∨t.e.length=0
   ·rw[if_pos c3] at*;trivial
   ·rw[if_neg c3] at*
    exact⟨h.2.2.1.ok.vb,by omega,by simp;omega,by simp,by simp⟩
  ·rw[if_neg c2] at*;trivial
theorem QwJ(ht:TyOk t){d:RD}(hd:d.ok)(h1:d.l.n.length≤3)(h2:d.l.e.length≤2):(ruM t d).l.g.n.length+(ruM t d).l.g.e.length≤6∧FbS (ruM t d).l.g (ruM t d).c:=by
 obtain⟨hl,_,hlg⟩:PaOk t (rdL t d)∧(rdL t d).v≤3∧(rdL t d).g=pgM t d.l:=QgN ht hd.l (q:=d.q) hd.s
 have b1:(pgM t d.l).n.length≤3:=by simp [pgM,pgN];omega
 have b2:(pgM t d.l).e.length≤2:=by
  refine Qt (List.length_filterMap_le _ _) ?_
  split
  ·exact Nat.zero_le _
  ·simp;omega
 rw[←hlg] at b1 b2
 have hf:=QwI ht hl b1 b2 hd.fb
 unfold ruM
 split
 ·exact⟨by simp only;omega,trivial⟩
 ·exact⟨by simp only;omega,hf⟩
theorem QwK(n:List Pr)(e:List E):(hsM t n e).g.n.length≤n.length∧(hsM t n e).g.e.length≤e.length:=by
 constructor
 ·simp only[hsM,hnN,QC]
  split
  ·exact Nat.zero_le _
  ·exact Qg _
 ·refine Qt (List.length_filterMap_le _ _) ?_
  (repeat' split)<;>first|exact Nat.zero_le _|exact Qg _
set_option maxHeartbeats 8000000 in
theorem QwL{ty ed:List Pr}(hty:∀x∈ty,P8 x)(hed:∀x∈ed,P8 x){d:RD}(hd:d.ok)(hq:∀x∈d.q,(-128≤x.a∧x.a≤127)∧(-128≤x.b∧x.b≤127)∧(-128≤x.c∧x.c≤127)∧(-128≤x.d∧x.d≤127))(lo:d.or.length≤QS)(l1:d.l.n.length≤QS)(l2:d.l.e.length≤QS){hn:List Pr}{he:List E}(hhn:∀x∈hn,P8 x)(hhe:∀x∈he,E8 x)(l3:hn.length≤QS)(l4:he.length≤QS){c:Int}(hc:XA c):
  FT 4 [.agg (Qa2 ty ed d hn he),.int .u8 c] (.bool true):=by
 have h:=Qmp hty hed
 have rM:=QwB hty hed hd hq lo l1 l2 hhn hhe l3 l4
 have hr:=QmB h (RD.sm_ok hd)
 obtain⟨s1,s2⟩:=QwJ h (RD.sm_ok hd) (by simp [RD.sm];omega) (by simp [RD.sm];omega)
 have hx:HsOk (tyM ty ed) (hsM (tyM ty ed) (hn.take 6) (he.take 8)):=Qv9 h (fun x hx=>hhn x (Qw hx)) (fun x hx=>hhe x (Qw hx)) (by simp;omega) (by simp;omega)
 have hz:=QwK (t:=tyM ty ed) (hn.take 6) (he.take 8)
 have z1:(hn.take 6).length≤6:=by simp;omega
 have z2:(he.take 8).length≤8:=by simp;omega
 generalize hsM (tyM ty ed) (hn.take 6) (he.take 8)=x at*
 generalize ruM (tyM ty ed) d.sm=r at*
 generalize tyM ty ed=t at*
 have rL:=QuB h hr s2 hx s1 (by omega) (by omega)
 obtain⟨L,hL,l20,rS⟩:=Qv5 h hr hx
 by_cases c0:L.length=0
 ·simp only[tyD,Q6,ruL,fbE,cyL,paL,hsD,hsL,Qa2,rdD,List.cons_append,List.nil_append] at rM rL rS ⊢
  refine fo [[]] ?_
  conv in fnC ..=>reduce
  simp(disch:=omega)only[go_sem,ayS]
  refine QQ rM ?_
  simp(disch:=omega)only[go_sem,ayS]
  refine QQ rL ?_
  simp(disch:=omega)only[go_sem,ayS]
  refine QQ rS ?_
  cases hfl:(Qas L).all D.flatE<;>simp(disch:=omega)only[go_sem,ayS,c0]
 ·obtain⟨i,hi,ei⟩:=gtI (tmB (n:=(L.length:Int)) hc.1 (by omega))
  obtain⟨m,dd,s,eg⟩:=hL _ (gt_mem (l:=L) (j:=(i:Int)) (by omega) (by omega))
  have rA:=QgM s
  have rU:=QvY s
  have eS:stS t r x m dd=⟨r,m,x,stA t r x m dd,stT x dd,stC r x m.m dd⟩:=rfl
  have hcb:0≤c∧c≤255:=hc
  by_cases hu:(XV t r x m dd m.m.n.length).length≤10
  ·rw[if_pos hu] at rU
   have s':=s.und hu
   have iso:=s.iso hu
   have rC:=Qme s'
   have hA:HsOk t (Yl t r x m dd):=s'.ho
   have ra:∀y∈(Yl t r x m dd).v,y.length≤1000:=fun y hy=>by
    obtain⟨j,hj,rfl⟩:=Xk hy
    have hln:=hA.ln
    have h1:=hA.vl j (by omega)
    have h2:=X7 h (hA.ty.n _ (gt_mem (l:=(Yl t r x m dd).g.n) (j:=(j:Int)) (by omega) (by omega))).2
    omega
   have rI:=QwD iso hA.ln hx.ln ra
   have q1:(Yl t r x m dd).g.n.length=x.g.n.length:=iso.nl
   have q2:(Yl t r x m dd).g.e.length=x.g.e.length:=by rw[←iso.ok.le];exact iso.e.l
   have hF:=iso.hfd (Yl t r x m dd).g.n.length 0 (by omega)
   rw[List.take_zero] at hF
   obtain⟨N,hN⟩:=Option.isSome_iff_exists.1 hF
   have rF:=QwH h hA hx (by omega) q1 q2 hN
   generalize heL (Yl t r x m dd) x N (Yl t r x m dd).g.e.length=F at*
   have e1:stS t (Q3 t r x m dd) (stA t r x m dd) (XT r x m dd) (Xt dd)=⟨Q3 t r x m dd,XT r x m dd,stA t r x m dd,Yl t r x m dd,stT (stA t r x m dd) (Xt dd),stC (Q3 t r x m dd) (stA t r x m dd) (XT r x m dd).m (Xt dd)⟩:=rfl
   rw[e1] at rU rC
   rw[eS] at rU rA eg
   clear e1 eS hF hN iso hA ra s' hL
   generalize stC (Q3 t r x m dd) (stA t r x m dd) (XT r x m dd).m (Xt dd)=C2 at*
   generalize stT (stA t r x m dd) (Xt dd)=T2 at*
   generalize Yl t r x m dd=V at*
   generalize XT r x m dd=M at*
   generalize Q3 t r x m dd=R at*
   generalize stA t r x m dd=A at*
   generalize stT x dd=T at*
   generalize stC r x m.m dd=C at*
   generalize bkM x r m=B at*
   simp only[tyD,Q6,ruL,fbE,cyL,paL,hsD,hsL,Qa2,rdD,Xs,X0,mtD,mtL,mD,List.cons_append,List.nil_append] at rM rL rS rA rU rC rI rF ⊢
   refine fo [[]] ?_
   conv in fnC ..=>reduce
   simp(disch:=omega)only[go_sem,ayS]
   refine QQ rM ?_
   simp(disch:=omega)only[go_sem,ayS]
   refine QQ rL ?_
   simp(disch:=omega)only[go_sem,ayS]
   refine QQ rS ?_
   simp(disch:=omega)only[go_sem,ayS,ei,eg,Xs,X0,ruL,paL,fbE,cyL,mtL,hsL]
   refine QQ rA ?_
   simp(disch:=omega)only[go_sem,ayS]
   refine QQ rU ?_
   simp(disch:=omega)only[go_sem,ayS]
   refine QQ rF ?_
   simp(disch:=omega)only[go_sem,ayS]
   refine QQ rC ?_
   simp(disch:=omega)only[go_sem,ayS]
   refine QQ rI ?_
   simp(disch:=omega)only[go_sem,ayS]
  ·rw[if_neg hu] at rU
   rw[eS] at rU rA eg
   clear eS hL
   generalize stA t r x m dd=A at*
   generalize stT x dd=T at*
   generalize stC r x m.m dd=C at*
   simp only[tyD,Q6,ruL,fbE,cyL,paL,hsD,hsL,Qa2,rdD,Xs,X0,mtD,mtL,mD,List.cons_append,List.nil_append] at rM rL rS rA rU ⊢
   refine fo [[]] ?_
   conv in fnC ..=>reduce
   simp(disch:=omega)only[go_sem,ayS]
   refine QQ rM ?_
   simp(disch:=omega)only[go_sem,ayS]
   refine QQ rL ?_
   simp(disch:=omega)only[go_sem,ayS]
   refine QQ rS ?_
   simp(disch:=omega)only[go_sem,ayS,ei,eg,Xs,X0,ruL,paL,fbE,cyL,mtL,hsL]
   refine QQ rA ?_
   simp(disch:=omega)only[go_sem,ayS]
   refine QQ rU ?_
   simp(disch:=omega)only[go_sem,ayS,stZ,moZ]
end
def QbJ:Sh:=.cat [YY,YY]
def QgT:Sh:=.cat [.int .i8,.int .i8,.int .i8,.int .i8]
def QwM:Sh:=.cat [.cat [Qdp,.slc 3 3 Jk,.slc 4 4 QgT],.int .u64,QaG,.slc 3 3 Jk,.slc 3 3 Jk,.bool,.bool,.cat [YY,YY,YY,YY],QaG]
def Qeh:Sh:=.cat [.slc 2 2 QbJ,.slc 2 2 QbJ,QwM,.cat [.slc 2 2 QbJ,.slc 3 3 Jk]]
theorem QmO:∀{xs:List D},(∀y∈xs,Xx QbJ y)→∃l:List Pr,xs=p8s l∧∀v∈l,P8 v
 |[],_=>⟨[],rfl,by simp⟩
 |x::xs,h=>by
  obtain⟨l,rfl,hl⟩:=QmO (xs:=xs) fun y hy=>h y (by simp [hy])
  have hx:=h x (by simp)
  simp only[QbJ,YY,Xx,HasShs] at hx
  obtain⟨_,rfl,_,_,rfl,⟨a,rfl,a1,a2⟩,_,_,rfl,⟨b,rfl,b1,b2⟩,rfl⟩:=hx
  refine⟨⟨a,b⟩::l,rfl,fun v hv=>?_⟩
  rcases Qh.1 hv with rfl|hv
  ·exact⟨⟨a1,a2⟩,b1,b2⟩
  ·exact hl v hv
theorem QmP:∀{xs:List D},(∀y∈xs,Xx QgT y)→∃l:List Q4,xs=q4s .i8 l∧∀x∈l,(-128≤x.a∧x.a≤127)∧(-128≤x.b∧x.b≤127)∧(-128≤x.c∧x.c≤127)∧(-128≤x.d∧x.d≤127)
 |[],_=>⟨[],rfl,by simp⟩
 |x::xs,h=>by
  obtain⟨l,rfl,hl⟩:=QmP (xs:=xs) fun y hy=>h y (by simp [hy])
  have hx:=h x (by simp)
  simp only[QgT,Xx,HasShs] at hx
  obtain⟨_,rfl,_,_,rfl,⟨a,rfl,ha⟩,_,_,rfl,⟨b,rfl,hb⟩,_,_,rfl,⟨c,rfl,hc⟩,_,_,rfl,⟨d,rfl,hd⟩,rfl⟩:=hx
  refine⟨⟨a,b,c,d⟩::l,rfl,fun v hv=>?_⟩
  rcases Qh.1 hv with rfl|hv
  ·exact⟨ha,hb,hc,hd⟩
  ·exact hl v hv
theorem QgU{x:D}(h:Xx (.slc 2 2 QbJ) x):∃l:List Pr,x=.lst 2 (p8s l)∧(∀v∈l,P8 v)∧l.length≤QS:=by
 simp only[Xx] at h
 obtain⟨xs,rfl,h1,h2⟩:=h
 obtain⟨l,rfl,hl⟩:=QmO h2
 rw[QmC] at h1
 unfold reachBytes at h1
 exact⟨l,rfl,hl,by unfold QS;omega⟩
theorem Qei{x:D}(h:Xx (.slc 3 3 Jk) x):∃l:List E,x=.lst 3 (trs l)∧(∀v∈l,E8 v)∧l.length≤QS:=by
 simp only[Xx] at h
 obtain⟨xs,rfl,h1,h2⟩:=h
 obtain⟨l,rfl,hl⟩:=QfN h2
 rw[QfL] at h1
 unfold reachBytes at h1
 exact⟨l,rfl,hl,by unfold QS;omega⟩
theorem QwN{k:IntKind}{l:List Sh}{ds:List D}(h:HasShs (.int k::l) ds):∃a b',ds=a::b'∧Xx (.int k) a∧HasShs l b':=by simpa only[HasShs] using h
theorem QmQ{l:List Sh}{ds:List D}(h:HasShs (.bool::l) ds):∃a b',ds=a::b'∧Xx .bool a∧HasShs l b':=by simpa only[HasShs] using h
theorem QwO{x:D}(h:Xx Qeh x):∃(ty ed:List Pr) (d:RD) (hn:List Pr) (he:List E),x=.agg (Qa2 ty ed d hn he)∧((∀v∈ty,P8 v)∧∀v∈ed,P8 v)∧d.ok∧(∀x∈d.q,(-128≤x.a∧x.a≤127)∧(-128≤x.b∧x.b≤127)∧(-128≤x.c∧x.c≤127)∧(-128≤x.d∧x.d≤127))∧(d.or.length≤QS∧d.l.n.length≤QS∧d.l.e.length≤QS)∧((∀v∈hn,P8 v)∧∀v∈he,E8 v)∧hn.length≤QS∧he.length≤QS:=by
 simp only[Qeh,Xx] at h
 obtain⟨ds,rfl,h⟩:=h
 obtain⟨_,_,rfl,a1,yh1⟩:=Jj h
 obtain⟨_,_,rfl,a2,yh2⟩:=Jj yh1
 obtain⟨_,_,rfl,r0,yh3⟩:=Qb6 yh2
 obtain⟨_,_,rfl,k0,yh4⟩:=Qb6 yh3
 obtain rfl:=Qdo yh4
 obtain⟨_,_,rfl,a3,yk5⟩:=Jj k0
 obtain⟨_,_,rfl,a4,yk6⟩:=Jj yk5
 obtain rfl:=Qdo yk6
 obtain⟨_,_,rfl,l0,yr7⟩:=Qb6 r0
 obtain⟨_,_,rfl,l1,yl8⟩:=Qb6 l0
 obtain⟨_,_,rfl,l2,yl9⟩:=Jj yl8
 obtain⟨_,_,rfl,l3,yl10⟩:=Jj yl9
 obtain rfl:=Qdo yl10
 obtain⟨_,_,rfl,b1,yr11⟩:=QwN yr7
 obtain⟨_,_,rfl,b2,yr12⟩:=Jj yr11
 obtain⟨_,_,rfl,b3,yr13⟩:=Jj yr12
 obtain⟨_,_,rfl,b4,yr14⟩:=Jj yr13
 obtain⟨_,_,rfl,b5,yr15⟩:=QmQ yr14
 obtain⟨_,_,rfl,b6,yr16⟩:=QmQ yr15
 obtain⟨_,_,rfl,b7,yr17⟩:=Qb6 yr16
 obtain⟨_,_,rfl,b8,yr18⟩:=Jj yr17
 obtain rfl:=Qdo yr18
 simp only[YY,HasShs,Xx] at b7
 obtain⟨_,_,rfl,⟨f1,rfl,f2⟩,_,_,rfl,⟨f3,rfl,f4⟩,_,_,rfl,⟨f5,rfl,f6⟩,_,_,rfl,⟨f7,rfl,f8⟩,rfl⟩:=b7
 simp only[Xx] at b1 b5 b6
 obtain⟨w,rfl,_⟩:=b1
 obtain⟨pl,rfl⟩:=b5
 obtain⟨ij,rfl⟩:=b6
 obtain⟨ty,rfl,c1,_⟩:=QgU a1
 obtain⟨ed,rfl,c2,_⟩:=QgU a2
 obtain⟨hn,rfl,c3,c4⟩:=QgU a3
 obtain⟨he,rfl,c5,c6⟩:=Qei a4
 obtain⟨g,e,g1,g2,g3⟩:=Qq7 (x:=.agg _) (by simp only[Qdp,Xx];exact⟨_,rfl,l1⟩)
 injection e with e
 subst e
 obtain⟨sl,rfl,d1,_⟩:=Qei l2
 simp only[Xx] at l3
 obtain⟨_,rfl,_,l3⟩:=l3
 obtain⟨q,rfl,d2⟩:=QmP l3
 obtain⟨n,rfl,d3,_⟩:=QfM b2
 obtain⟨es,rfl,d4,_⟩:=Qei b3
 obtain⟨ss,rfl,d5,_⟩:=Qei b4
 obtain⟨o,rfl,d6,d7⟩:=QfM b8
 exact⟨ty,ed,⟨g,sl,q,w,n,es,ss,pl,ij,⟨f1,f3,f5,f7⟩,o⟩,hn,he,rfl,⟨c1,c2⟩,⟨g1,d1,d3,d4,d5,⟨f2,f4,f6,f8⟩,d6⟩,d2,⟨d7,g2,g3⟩,⟨c3,c5⟩,c4,c6⟩
theorem QwP(args:List D)(ha:QaE [Qeh,YY] args):FC Tryz.prog 4 args (.bool true) []:=by
 simp only[QaE] at ha
 obtain⟨_,_,rfl,h1,_,_,rfl,h2,rfl⟩:=ha
 obtain⟨ty,ed,d,hn,he,rfl,⟨c1,c2⟩,hd,hq,⟨o1,o2,o3⟩,⟨c3,c4⟩,c5,c6⟩:=QwO h1
 obtain⟨c,rfl,hc⟩:=Qjm h2
 exact QwL c1 c2 hd hq o1 o2 o3 c3 c4 c5 c6 hc
end Go.Am
