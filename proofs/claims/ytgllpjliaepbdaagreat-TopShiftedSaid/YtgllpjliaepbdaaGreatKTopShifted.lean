/- The functions of this seat, their contracts. Printed by seat.py. -/
import Derived.Shelf.Sort.Plain
import Derived.Shelf.Slices.In.SortNone
import Derived.Test.YtgllpjliaepbdaaGreatRows
import Derived.KernelRfl
import Derived.Test.YtgllpjliaepbdaaGreatSpPa
import Derived.Test.YtgllpjliaepbdaaGreatSpPb
import Derived.Test.YtgllpjliaepbdaaGreatSpPc
import Derived.Test.YtgllpjliaepbdaaGreatSpPd
import Derived.Test.YtgllpjliaepbdaaGreatSpPe
import Derived.Test.YtgllpjliaepbdaaGreatSpPf
import Derived.Test.YtgllpjliaepbdaaGreatSpPg
import Derived.Test.YtgllpjliaepbdaaGreatSpPh
import Derived.Test.YtgllpjliaepbdaaGreatSpPi
import Derived.Test.YtgllpjliaepbdaaGreatSpPj
import Derived.Test.YtgllpjliaepbdaaGreatSpPk
import Derived.Test.YtgllpjliaepbdaaGreatSpPl
import Derived.Test.YtgllpjliaepbdaaGreatSpXa
namespace Go.Proofs.YtgllpjliaepbdaaGreat
open Go Go.Am
attribute [local irreducible] W
set_option linter.unusedVariables false
set_option linter.unusedSimpArgs false
def sF:String→Nat:=lkS [("ap",3),("T",5),("aT",6),("C",7),("ae",8),("bb",9),("bT",10),("O",11),("q",12),("aC",13),("aa",14),("bB",15),("v",16),("bG",17),("j",18),("n",19),("bs",28),("bC",29),("at",30),("L",31),("bv",32),("h",33),("m",34),("i",35),("o",36),("bq",37),("aQ",38),("aI",39),("l",40),("aW",41),("bw",42),("bH",43),("aV",44),("d",45),("t",46),("B",47),("z",48),("bV",49),("p",50),("bx",51),("w",52),("ac",53),("b",70),("bW",72),("K",75),("bl",76),("ba",77),("aK",78),("aG",79),("y",80),("bP",81),("e",82),("W",83),("c",84),("A",85),("bZ",86),("r",87),("N",88),("U",89),("D",90),("aE",91),("bc",92),("Q",93),("aM",94),("aR",95),("av",96),("aS",97),("ar",98),("M",99),("bX",100),("ca",101),("aw",102),("ak",103),("aO",104),("aN",105),("R",106),("g",107),("bI",141),("s",157),("F",159),("bm",160),("aJ",161),("P",162),("ah",163),("an",164),("aY",165),("az",166),("bU",167),("bQ",168),("I",169),("bn",170),("bk",171),("bR",172),("br",173),("Y",174),("aU",175),("x",176),("bN",177),("J",178),("a",179),("bu",180),("f",181),("aj",182),("am",183),("cc",184),("cb",185),("bO",186),("k",187),("Z",232),("bt",233),("by",234),("bg",235),("aP",236),("be",250),("X",251),("aD",252),("bf",253),("bS",254),("bJ",255),("V",256),("ay",257),("E",258),("aL",259),("ao",260),("ce",261),("aH",262),("G",263),("as",264),("ad",265),("aB",266),("bL",267),("aA",268),("bK",269),("ab",323),("bi",324),("bD",333),("H",336),("aq",337),("af",338),("bo",339),("bh",340),("cf",341),("bM",342),("aZ",390),("bp",391),("bd",392),("ai",393),("ax",394),("bE",436),("bj",437),("u",438),("aF",439),("au",440),("al",441),("ag",459),("bF",460),("aX",461),("bz",462),("bA",463),("bY",464),("S",468),("cd",469)]
def sMd:Nat→List Md:=lkM [(33,[.mp,.rd,.rd]),(48,[.rd,.rd,.rd,.ow]),(79,[.mp]),(87,[.mp,.rd,.rd,.rd]),(93,[.rd,.rd,.rd,.rd,.ow]),(107,[.mp,.rd]),(187,[.mp,.rd]),(252,[.mu]),(253,[.ow]),(258,[.mp,.rd]),(336,[.mp,.rd,.rd]),(462,[.mu,.rd,.rd]),(463,[.ow])]
theorem Tryz.mx:Tryz.prog.follows .mixedOrders=true:=by kernel_rfl
theorem fcQ{f:Nat}{fn:Func}{args:List D}{r:D}(rs:List RV)(c:(String→Nat)→LC)(n:Nat)(hf:Tryz.prog.funcs[f]?=some fn)(hc:fn.body.bind (cC Tryz.prog (wMd (hOf [] (c fun _=>0)) sMd) fn.ntmps)=some (c sF))(hrs:JD Tryz.prog fn.results.toList=some rs)(hsm:((fn.name != "runtime.NumGoroutine")&&decide (n≤fn.ntmps)&&(wMd (hOf [] (c fun _=>0)) sMd).fx.isEmpty)=true)(hn:args.length=n)(hok:args.all XH=true)(hW:W Tryz.prog (c sF) (Done rs [] r []) (init args)):FC Tryz.prog f args r []:=FC.of' hf Tryz.mx hc hrs hsm hn hok hW
theorem QTo:Qhe Tryz.prog sF:=by
 unfold Qhe
 rw[show sF "bS" =254 by kernel_rfl]
 intro l hl g cs hcs p hg
 refine fcQ [.t 4] Qg9 2 Tryz.func254 ?a ?b ?c ?d ?e ?f
 case f=>have hw:=QVt (P:=Tryz.prog) (F:=sF) l hl g cs hcs p hg;assumption
 case a|b|c=>kernel_rfl
 case d=>rfl
 case e=>first|rfl|(simp only[List.all_cons,List.all_nil,Bool.and_true];first|rfl|assumption|exact Qbz hcs)
theorem QTp:Qhg Tryz.prog sF:=by
 unfold Qhg
 rw[show sF "bU" =167 by kernel_rfl]
 intro l hl g cs hcs p hg
 refine fcQ [.t 4] Qha 2 Tryz.func167 ?a ?b ?c ?d ?e ?f
 case f=>have hw:=QVv QTo l hl g cs hcs p hg;assumption
 case a|b|c=>kernel_rfl
 case d=>rfl
 case e=>first|rfl|(simp only[List.all_cons,List.all_nil,Bool.and_true];first|rfl|assumption|exact Qbz hcs)
theorem QTq:Qhf Tryz.prog sF:=by
 unfold Qhf
 rw[show sF "bJ" =255 by kernel_rfl]
 intro l hl g cs hcs p hg
 refine fcQ [.t 4] Qhb 2 Tryz.func255 ?a ?b ?c ?d ?e ?f
 case f=>have hw:=QVu (P:=Tryz.prog) (F:=sF) l hl g cs hcs p hg;assumption
 case a|b|c=>kernel_rfl
 case d=>rfl
 case e=>first|rfl|(simp only[List.all_cons,List.all_nil,Bool.and_true];first|rfl|assumption|exact Qbz hcs)
theorem QTr:Qhh Tryz.prog sF:=by
 unfold Qhh
 rw[show sF "bn" =170 by kernel_rfl]
 intro l hl g cs hcs p hg
 refine fcQ [.t 4] Qhc 2 Tryz.func170 ?a ?b ?c ?d ?e ?f
 case f=>have hw:=QVw QTq l hl g cs hcs p hg;assumption
 case a|b|c=>kernel_rfl
 case d=>rfl
 case e=>first|rfl|(simp only[List.all_cons,List.all_nil,Bool.and_true];first|rfl|assumption|exact Qbz hcs)
theorem QoU:QdQ Tryz.prog sF:=by
 unfold QdQ
 rw[show sF "I" =169 by kernel_rfl]
 intro n m
 refine fcQ [.t 4] Qg2 2 Tryz.func169 ?a ?b ?c ?d ?e ?f
 case f=>have hw:=QVp (P:=Tryz.prog) (F:=sF) n m;assumption
 case a|b|c=>kernel_rfl
 case d|e=>rfl
theorem QTs:Qhi Tryz.prog sF:=by
 unfold Qhi
 rw[show sF "bQ" =168 by kernel_rfl]
 intro x
 refine fcQ [.t 2] Qg5 1 Tryz.func168 ?a ?b ?c ?d ?e ?f
 case f=>have hw:=QVx QoU x;assumption
 case a|b|c=>kernel_rfl
 case d|e=>rfl
theorem QTt:Qhd Tryz.prog sF:=by
 unfold Qhd
 rw[show sF "bR" =172 by kernel_rfl]
 intro x n hn
 refine fcQ [.t 4] Qg3 2 Tryz.func172 ?a ?b ?c ?d ?e ?f
 case f=>have hw:=QVq QoU x n hn;assumption
 case a|b|c=>kernel_rfl
 case d|e=>rfl
theorem QTu:Qhj Tryz.prog sF:=by
 unfold Qhj
 rw[show sF "bk" =171 by kernel_rfl]
 intro x ns es hn
 refine fcQ [.t 3] Qg6 2 Tryz.func171 ?a ?b ?c ?d ?e ?f
 case f=>have hw:=QVy QTt x ns es hn;assumption
 case a|b|c=>kernel_rfl
 case d|e=>rfl
theorem Qa1:Qad Tryz.prog sF:=by
 unfold Qad
 rw[show sF "c" =84 by kernel_rfl]
 intro g
 refine fcQ [.t 2] Qg4 1 Tryz.func84 ?a ?b ?c ?d ?e ?f
 case f=>have hw:=QVz QTp QTr QTs QTu g;assumption
 case a|b|c=>kernel_rfl
 case d|e=>rfl
theorem QTv:Qjy Tryz.prog sF:=by
 unfold Qjy
 rw[show sF "aL" =259 by kernel_rfl]
 intro l n hl h0 h1
 refine fcQ [.t 4] Qjl 2 Tryz.func259 ?a ?b ?c ?d ?e ?f
 case f=>have hw:=QXu (P:=Tryz.prog) (F:=sF) l n hl h0 h1;assumption
 case a|b|c=>kernel_rfl
 case d|e=>rfl
theorem QTw:Qju Tryz.prog sF:=by
 unfold Qju
 rw[show sF "aq" =337 by kernel_rfl]
 intro x
 refine fcQ [.t 2] Qjh 1 Tryz.func337 ?a ?b ?c ?d ?e ?f
 case f=>have hw:=QXo (P:=Tryz.prog) (F:=sF) x;assumption
 case a|b|c=>kernel_rfl
 case d|e=>rfl
theorem QTx:Qjw Tryz.prog sF:=by
 unfold Qjw
 rw[show sF "ce" =261 by kernel_rfl]
 intro x y
 refine fcQ [.t 4] Qji 2 Tryz.func261 ?a ?b ?c ?d ?e ?f
 case f=>have hw:=QXq QTw x y;assumption
 case a|b|c=>kernel_rfl
 case d|e=>rfl
theorem QTy:Qjv Tryz.prog sF:=by
 unfold Qjv
 rw[show sF "aH" =262 by kernel_rfl]
 intro x
 refine fcQ [.t 2] Qjj 1 Tryz.func262 ?a ?b ?c ?d ?e ?f
 case f=>have hw:=QXp (P:=Tryz.prog) (F:=sF) x;assumption
 case a|b|c=>kernel_rfl
 case d|e=>rfl
theorem QoV:Qes Tryz.prog sF:=by
 unfold Qes
 rw[show sF "J" =178 by kernel_rfl]
 intro l x hp hl
 refine fcQ [.t 4,.t 5] Qjk 2 Tryz.func178 ?a ?b ?c ?d ?e ?f
 case f=>have hw:=QXr QTx QTy l x hp hl;assumption
 case a|b|c=>kernel_rfl
 case d|e=>rfl
theorem QTz:Qjx Tryz.prog sF:=by
 unfold Qjx
 rw[show sF "ao" =260 by kernel_rfl]
 intro l x hp hl
 refine fcQ [.t 4] Qjm 2 Tryz.func260 ?a ?b ?c ?d ?e ?f
 case f=>have hw:=QXs QoV l x hp hl;assumption
 case a|b|c=>kernel_rfl
 case d|e=>rfl
theorem QTA:Qjz Tryz.prog sF:=by
 unfold Qjz
 rw[show sF "bN" =177 by kernel_rfl]
 intro g p hv h1 h2
 refine fcQ [.t 4] Qjn 2 Tryz.func177 ?a ?b ?c ?d ?e ?f
 case f=>have hw:=QXv QTv QTz g p hv h1 h2;assumption
 case a|b|c=>kernel_rfl
 case d|e=>rfl
theorem QgV:QcM Tryz.prog sF:=by
 unfold QcM
 rw[show sF "N" =88 by kernel_rfl]
 intro g p h1 h2
 refine fcQ [.t 4] Qjo 2 Tryz.func88 ?a ?b ?c ?d ?e ?f
 case f=>have hw:=QXx Qa1 QTA g p h1 h2;assumption
 case a|b|c=>kernel_rfl
 case d|e=>rfl
theorem Qa2:Qag Tryz.prog sF:=by
 unfold Qag
 rw[show sF "a" =179 by kernel_rfl]
 intro l hl
 refine fcQ [.t 2] QhC 1 Tryz.func179 ?a ?b ?c ?d ?e ?f
 case f=>have hw:=QVY (P:=Tryz.prog) (F:=sF) l hl;assumption
 case a|b|c=>kernel_rfl
 case d|e=>rfl
theorem QoW:QeH Tryz.prog sF:=by
 unfold QeH
 rw[show sF "U" =89 by kernel_rfl]
 intro g p h1
 refine fcQ [.c 4 true 2,.c 5 true 2,.t 6] Qkr 2 Tryz.func89 ?a ?b ?c ?d ?e ?f
 case f=>have hw:=QYa QgV QoV Qa2 g p h1;assumption
 case a|b|c=>kernel_rfl
 case d|e=>rfl
theorem QbA:QaA Tryz.prog sF:=by
 unfold QaA
 rw[show sF "e" =82 by kernel_rfl]
 intro a b m
 refine fcQ [.t 6] Qhw 3 Tryz.func82 ?a ?b ?c ?d ?e ?f
 case f=>have hw:=QVQ Qa1 a b m;assumption
 case a|b|c=>kernel_rfl
 case d|e=>rfl
def QTB:Go.Shelf.Ren:=⟨fun|189=>252|125=>335|257=>334|128=>388|129=>389|294=>380|295=>381|296=>382|297=>383|298=>384|299=>385|216=>261|300=>386|301=>387|328=>431|329=>432|330=>433|331=>434|332=>435|215=>337|343=>458|n=>n,fun|28=>32|3=>3|46=>346|0=>0|51=>389|53=>26|4=>4|183=>419|182=>418|131=>267|5=>5|9=>9|218=>452|222=>456|228=>469|229=>120|n=>n,fun|n=>n⟩
theorem QoX:Go.Proofs.Lays.n189 Tryz.prog QTB:={
 mixed:=by kernel_rfl,
 f125:=Tryz.func335.trans (congrArg some (by kernel_rfl)),
 f128:=Tryz.func388.trans (congrArg some (by kernel_rfl)),
 f129:=Tryz.func389.trans (congrArg some (by kernel_rfl)),
 f189:=Tryz.func252.trans (congrArg some (by kernel_rfl)),
 f215:=Tryz.func337.trans (congrArg some (by kernel_rfl)),
 f216:=Tryz.func261.trans (congrArg some (by kernel_rfl)),
 f257:=Tryz.func334.trans (congrArg some (by kernel_rfl)),
 f294:=Tryz.func380.trans (congrArg some (by kernel_rfl)),
 f295:=Tryz.func381.trans (congrArg some (by kernel_rfl)),
 f296:=Tryz.func382.trans (congrArg some (by kernel_rfl)),
 f297:=Tryz.func383.trans (congrArg some (by kernel_rfl)),
 f298:=Tryz.func384.trans (congrArg some (by kernel_rfl)),
 f299:=Tryz.func385.trans (congrArg some (by kernel_rfl)),
 f300:=Tryz.func386.trans (congrArg some (by kernel_rfl)),
 f301:=Tryz.func387.trans (congrArg some (by kernel_rfl)),
 f328:=Tryz.func431.trans (congrArg some (by kernel_rfl)),
 f329:=Tryz.func432.trans (congrArg some (by kernel_rfl)),
 f330:=Tryz.func433.trans (congrArg some (by kernel_rfl)),
 f331:=Tryz.func434.trans (congrArg some (by kernel_rfl)),
 f332:=Tryz.func435.trans (congrArg some (by kernel_rfl)),
 f343:=Tryz.func458.trans (congrArg some (by kernel_rfl)),
 t0:=Tryz.underlying0,
 a0:=Tryz.isAgg0,
 z0:=Tryz.sizeOf0,
 v0:=Tryz.zeroValue0,
 t3:=Tryz.underlying3,
 a3:=Tryz.isAgg3,
 z3:=Tryz.sizeOf3,
 v3:=Tryz.zeroValue3,
 t4:=Tryz.underlying4,
 a4:=Tryz.isAgg4,
 z4:=Tryz.sizeOf4,
 v4:=Tryz.zeroValue4,
 t5:=Tryz.underlying5,
 a5:=Tryz.isAgg5,
 z5:=Tryz.sizeOf5,
 v5:=Tryz.zeroValue5,
 t9:=Tryz.underlying9,
 a9:=Tryz.isAgg9,
 z9:=Tryz.sizeOf9,
 v9:=Tryz.zeroValue9,
 t28:=Tryz.underlying32,
 a28:=Tryz.isAgg32,
 z28:=Tryz.sizeOf32,
 v28:=Tryz.zeroValue32,
 t46:=Tryz.underlying346,
 a46:=Tryz.isAgg346,
 z46:=Tryz.sizeOf346,
 v46:=Tryz.zeroValue346,
 t51:=Tryz.underlying389,
 a51:=Tryz.isAgg389,
 z51:=Tryz.sizeOf389,
 v51:=Tryz.zeroValue389,
 t53:=Tryz.underlying26,
 a53:=Tryz.isAgg26,
 z53:=Tryz.sizeOf26,
 v53:=Tryz.zeroValue26,
 t131:=Tryz.underlying267,
 a131:=Tryz.isAgg267,
 z131:=Tryz.sizeOf267,
 v131:=Tryz.zeroValue267,
 t182:=Tryz.underlying418,
 a182:=Tryz.isAgg418,
 z182:=Tryz.sizeOf418,
 v182:=Tryz.zeroValue418,
 t183:=Tryz.underlying419,
 a183:=Tryz.isAgg419,
 z183:=Tryz.sizeOf419,
 v183:=Tryz.zeroValue419,
 t218:=Tryz.underlying452,
 a218:=Tryz.isAgg452,
 z218:=Tryz.sizeOf452,
 v218:=Tryz.zeroValue452,
 t222:=Tryz.underlying456,
 a222:=Tryz.isAgg456,
 z222:=Tryz.sizeOf456,
 v222:=Tryz.zeroValue456,
 t228:=Tryz.underlying469,
 a228:=Tryz.isAgg469,
 z228:=Tryz.sizeOf469,
 v228:=Tryz.zeroValue469,
 t229:=Tryz.underlying120,
 a229:=Tryz.isAgg120,
 z229:=Tryz.sizeOf120,
 v229:=Tryz.zeroValue120}
theorem QoY:QdV Tryz.prog sF:=by
 unfold QdV
 rw[show sF "aD" =252 by kernel_rfl]
 intro l hl
 have hb:(Tryz.f252.body.isSome)=true:=by kernel_rfl
 obtain⟨body,hb⟩:=Option.isSome_iff_exists.1 hb
 exact QVW (Qop Tryz.func252 (by kernel_rfl) hb) (fun blk off cap zs w h1 h2 h3=>Go.Proofs.Any.slices_Sort_int QoX blk off cap zs w h1 h2 h3) (fun p cap w=>Go.Proofs.Any.slices_Sort_int_none QoX p cap w) l hl
theorem QTC:QhM Tryz.prog sF:=by
 unfold QhM
 rw[show sF "bf" =253 by kernel_rfl]
 intro l hl
 refine FC.of' (rs:=[.t 2]) (H:=wMd QWc sMd) (lc:=QhJ sF) (n:=1) Tryz.func253 Tryz.mx ?a ?b ?c ?d ?e ?f
 case f=>have hw:=QWe (P:=Tryz.prog) (F:=sF) l hl;assumption
 case a|b|c=>kernel_rfl
 case d|e=>rfl
theorem QTD:QhN Tryz.prog sF:=by
 unfold QhN
 rw[show sF "az" =166 by kernel_rfl]
 intro l hl
 refine fcQ [.t 2] QhK 1 Tryz.func166 ?a ?b ?c ?d ?e ?f
 case f=>have hw:=QWi Qa2 QoY QTC l hl;assumption
 case a|b|c=>kernel_rfl
 case d|e=>rfl
theorem QgW:QcA Tryz.prog sF:=by
 unfold QcA
 rw[show sF "W" =83 by kernel_rfl]
 intro a b m
 refine fcQ [.t 6] QhL 3 Tryz.func83 ?a ?b ?c ?d ?e ?f
 case f=>have hw:=QWj QbA QTD a b m;assumption
 case a|b|c=>kernel_rfl
 case d|e=>rfl
theorem QTE:QmJ Tryz.prog sF:=by
 unfold QmJ
 rw[show sF "bw" =42 by kernel_rfl]
 intro nm s ho
 refine fcQ [.t 2] QmA 1 Tryz.func42 ?a ?b ?c ?d ?e ?f
 case f=>have hw:=QZV Qa1 QgV QoW QbA QgW nm s ho;assumption
 case a|b|c=>kernel_rfl
 case d|e=>rfl
theorem QTF:QmI Tryz.prog sF:=by
 unfold QmI
 rw[show sF "aV" =44 by kernel_rfl]
 intro nm s
 refine fcQ [.c 2 true 8] QmB 1 Tryz.func44 ?a ?b ?c ?d ?e ?f
 case f=>have hw:=QZU (P:=Tryz.prog) (F:=sF) nm s;assumption
 case a|b|c=>kernel_rfl
 case d|e=>rfl
theorem QoZ:Qe9 Tryz.prog sF:=by
 unfold Qe9
 rw[show sF "ay" =257 by kernel_rfl]
 intro p
 refine fcQ [.t 2] Qly 1 Tryz.func257 ?a ?b ?c ?d ?e ?f
 case f=>have hw:=QY3 (P:=Tryz.prog) (F:=sF) p;assumption
 case a|b|c=>kernel_rfl
 case d|e=>rfl
theorem QTG:QlH Tryz.prog sF:=by
 unfold QlH
 rw[show sF "V" =256 by kernel_rfl]
 intro k l
 refine fcQ [.t 2] Qlz 1 Tryz.func256 ?a ?b ?c ?d ?e ?f
 case f=>have hw:=QY4 QoZ k l;assumption
 case a|b|c=>kernel_rfl
 case d|e=>rfl
theorem QTH:QlI Tryz.prog sF:=by
 unfold QlI
 rw[show sF "br" =173 by kernel_rfl]
 intro c hs
 refine fcQ [.t 2] QlA 1 Tryz.func173 ?a ?b ?c ?d ?e ?f
 case f=>have hw:=QY5 QTG QoZ c hs;assumption
 case a|b|c=>kernel_rfl
 case d|e=>first|rfl|(simp only[Q4];rfl)
theorem QTI:QlN Tryz.prog sF:=by
 unfold QlN
 intro n
 induction n using Nat.strongRecOn with
 |ind n ih=>
 unfold QlM
 rw[show sF "A" =85 by kernel_rfl]
 intro a c hc hn va ho
 refine fcQ [.t 4] QlD 2 Tryz.func85 ?a ?b ?c ?d ?e ?f
 case f=>have hw:=QY8 QTH QbA QgW n ih a c hc hn va ho;assumption
 case a|b|c=>kernel_rfl
 case d|e=>first|rfl|(simp only[Q4];rfl)
theorem QTJ:QlK Tryz.prog sF:=by
 unfold QlK
 intro n
 induction n using Nat.strongRecOn with
 |ind n ih=>
 unfold QlJ
 rw[show sF "Y" =174 by kernel_rfl]
 intro c hc hn
 refine fcQ [.t 2,.t 3] QlB 1 Tryz.func174 ?a ?b ?c ?d ?e ?f
 case f=>have hw:=QY6 (P:=Tryz.prog) (F:=sF) n ih c hc hn;assumption
 case a|b|c=>kernel_rfl
 case d|e=>first|rfl|(simp only[Q4];rfl)
theorem QTK:QlL Tryz.prog sF:=by
 unfold QlL
 rw[show sF "bZ" =86 by kernel_rfl]
 intro c h
 refine fcQ [.t 2] QlC 1 Tryz.func86 ?a ?b ?c ?d ?e ?f
 case f=>have hw:=QY7 QTJ c h;assumption
 case a|b|c=>kernel_rfl
 case d|e=>first|rfl|(simp only[Q4];rfl)
theorem QgX:Qc4 Tryz.prog sF:=by
 unfold Qc4
 rw[show sF "l" =40 by kernel_rfl]
 intro a c h va hov
 refine fcQ [.t 4] QlE 2 Tryz.func40 ?a ?b ?c ?d ?e ?f
 case f=>have hw:=QY9 Qa1 QTI QTK a c h va hov;assumption
 case a|b|c=>kernel_rfl
 case d|e=>first|rfl|(simp only[Q4];rfl)
theorem QTL:QmC Tryz.prog sF:=by
 unfold QmC
 rw[show sF "G" =263 by kernel_rfl]
 intro l hl
 refine fcQ [.t 2] Qmt 1 Tryz.func263 ?a ?b ?c ?d ?e ?f
 case f=>have hw:=QZO Qa2 QoY l hl;assumption
 case a|b|c=>kernel_rfl
 case d|e=>rfl
theorem QTM:QjQ Tryz.prog sF:=by
 unfold QjQ
 rw[show sF "bt" =233 by kernel_rfl]
 intro x hs
 refine fcQ [.t 2] QjD 1 Tryz.func233 ?a ?b ?c ?d ?e ?f
 case f=>have hw:=QXF QbA QgV x hs;assumption
 case a|b|c=>kernel_rfl
 case d|e=>rfl
theorem QdN:QbB Tryz.prog sF:=by
 unfold QbB
 rw[show sF "p" =50 by kernel_rfl]
 intro l x hl
 refine fcQ [.t 4] Qg7 2 Tryz.func50 ?a ?b ?c ?d ?e ?f
 case f=>have hw:=QVr (P:=Tryz.prog) (F:=sF) l x hl;assumption
 case a|b|c=>kernel_rfl
 case d|e=>rfl
theorem Qay:JX Tryz.prog sF:=by
 unfold JX
 rw[show sF "b" =70 by kernel_rfl]
 intro l x hl
 refine fcQ [.t 4] Qg8 2 Tryz.func70 ?a ?b ?c ?d ?e ?f
 case f=>have hw:=QVs QdN l x hl;assumption
 case a|b|c=>kernel_rfl
 case d|e=>rfl
theorem QTN:QjT Tryz.prog sF:=by
 unfold QjT
 rw[show sF "ab" =323 by kernel_rfl]
 intro im kn h1 h2
 refine FC.of' (rs:=[.t 4]) (H:=wMd QXz sMd) (lc:=QjH sF) (n:=2) Tryz.func323 Tryz.mx ?a ?b ?c ?d ?e ?f
 case f=>have hw:=QXL Qay im kn h1 h2;assumption
 case a|b|c=>kernel_rfl
 case d|e=>rfl
theorem QTO:QjU Tryz.prog sF:=by
 unfold QjU
 rw[show sF "by" =234 by kernel_rfl]
 intro x he
 refine fcQ [.t 2,.t 3] QjI 1 Tryz.func234 ?a ?b ?c ?d ?e ?f
 case f=>have hw:=QXN QTN x he;assumption
 case a|b|c=>kernel_rfl
 case d|e=>rfl
theorem QTP:QjR Tryz.prog sF:=by
 unfold QjR
 rw[show sF "bi" =324 by kernel_rfl]
 intro x h1 h2
 refine fcQ [.t 2] QjE 1 Tryz.func324 ?a ?b ?c ?d ?e ?f
 case f=>have hw:=QXH Qay x h1 h2;assumption
 case a|b|c=>kernel_rfl
 case d|e=>rfl
theorem QTQ:QjS Tryz.prog sF:=by
 unfold QjS
 rw[show sF "bg" =235 by kernel_rfl]
 intro x he
 refine fcQ [.t 2] QjF 1 Tryz.func235 ?a ?b ?c ?d ?e ?f
 case f=>have hw:=QXJ QTP Qay x he;assumption
 case a|b|c=>kernel_rfl
 case d|e=>rfl
theorem QTR:QjV Tryz.prog sF:=by
 unfold QjV
 rw[show sF "aP" =236 by kernel_rfl]
 intro n im kn hn h1 h2 hb
 refine fcQ [.t 6] QjJ 3 Tryz.func236 ?a ?b ?c ?d ?e ?f
 case f=>have hw:=QXO Qay n im kn hn h1 h2 hb;assumption
 case a|b|c=>kernel_rfl
 case d|e=>rfl
theorem QTS:Qj8 Tryz.prog sF:=by
 unfold Qj8
 rw[show sF "bI" =141 by kernel_rfl]
 intro x hs
 refine fcQ [.c 8 true 2,.t 9] Qj4 4 Tryz.func141 ?a ?b ?c ?d ?e ?f
 case f=>have hw:=QXV QTM QTO QTQ QTR x hs;assumption
 case a|b|c=>kernel_rfl
 case d|e=>rfl
theorem QTT:QmD Tryz.prog sF:=by
 unfold QmD
 rw[show sF "af" =338 by kernel_rfl]
 refine FC.ofZ (rs:=[.c 0 true 9]) (H:=wMd QZM sMd) (lc:=Qfp sF) (n:=0) (outs:=[]) Tryz.func338 Tryz.mx ?a ?b ?c ?d ?e ?f
 case f=>have hw:=QZP (P:=Tryz.prog) (F:=sF);assumption
 case a|b|c=>kernel_rfl
 case d|e=>first|rfl|(simp only[Q4];rfl)
theorem QTU:QmE Tryz.prog sF:=by
 unfold QmE
 rw[show sF "as" =264 by kernel_rfl]
 refine FC.ofZ (rs:=[.c 0 true 9]) (H:=wMd QZL sMd) (lc:=Qfo sF) (n:=0) (outs:=[]) Tryz.func264 Tryz.mx ?a ?b ?c ?d ?e ?f
 case f=>have hw:=QZQ QTT;assumption
 case a|b|c=>kernel_rfl
 case d|e=>first|rfl|(simp only[Q4];rfl)
theorem QTV:QmG Tryz.prog sF:=by
 unfold QmG
 rw[show sF "aB" =266 by kernel_rfl]
 intro l im h1 h2 hb
 refine fcQ [.t 4] Qmx 2 Tryz.func266 ?a ?b ?c ?d ?e ?f
 case f=>have hw:=QZS (P:=Tryz.prog) (F:=sF) l im h1 h2 hb;assumption
 case a|b|c=>kernel_rfl
 case d|e=>rfl
theorem QTW:QmF Tryz.prog sF:=by
 unfold QmF
 rw[show sF "ad" =265 by kernel_rfl]
 intro l im h1 h2
 refine fcQ [.t 4] Qmv 2 Tryz.func265 ?a ?b ?c ?d ?e ?f
 case f=>have hw:=QZR QdN l im h1 h2;assumption
 case a|b|c=>kernel_rfl
 case d|e=>rfl
theorem QTX:Qja Tryz.prog sF:=by
 unfold Qja
 rw[show sF "bo" =339 by kernel_rfl]
 intro s
 refine fcQ [.t 2] Qi5 1 Tryz.func339 ?a ?b ?c ?d ?e ?f
 case f=>have hw:=QW5 QbA s;assumption
 case a|b|c=>kernel_rfl
 case d|e=>rfl
theorem QTY:Qil Tryz.prog sF:=by
 unfold Qil
 rw[show sF "bF" =460 by kernel_rfl]
 intro n hn
 refine fcQ [.t 4] Qig 2 Tryz.func460 ?a ?b ?c ?d ?e ?f
 case f=>have hw:=QWH (P:=Tryz.prog) (F:=sF) n hn;assumption
 case a|b|c=>kernel_rfl
 case d|e=>rfl
theorem QTZ:Qim Tryz.prog sF:=by
 unfold Qim
 rw[show sF "bj" =437 by kernel_rfl]
 intro a b ha hb
 refine fcQ [.t 2] Qih 1 Tryz.func437 ?a ?b ?c ?d ?e ?f
 case f=>have hw:=QWI QTY a b ha hb;assumption
 case a|b|c=>kernel_rfl
 case d|e=>rfl
theorem Qo0:QdW Tryz.prog sF:=by
 unfold QdW
 rw[show sF "Z" =232 by kernel_rfl]
 intro l hl
 refine fcQ [.t 2] QhD 1 Tryz.func232 ?a ?b ?c ?d ?e ?f
 case f=>have hw:=QVZ (P:=Tryz.prog) (F:=sF) l hl;assumption
 case a|b|c=>kernel_rfl
 case d|e=>rfl
theorem QT0:Qhq Tryz.prog sF:=by
 unfold Qhq
 rw[show sF "u" =438 by kernel_rfl]
 intro f n h0 h1 h2
 refine fcQ [.t 4] Qhk 2 Tryz.func438 ?a ?b ?c ?d ?e ?f
 case f=>have hw:=QVB (P:=Tryz.prog) (F:=sF) f n h0 h1 h2;assumption
 case a|b|c=>kernel_rfl
 case d|e=>rfl
theorem QT1:Qik Tryz.prog sF:=by
 unfold Qik
 rw[show sF "bp" =391 by kernel_rfl]
 intro a b
 refine fcQ [.c 4 true 2,.c 5 true 2,.c 6 true 2,.t 7] Qii 2 Tryz.func391 ?a ?b ?c ?d ?e ?f
 case f=>have hw:=QWJ Qa1 QTZ Qo0 QT0 a b;assumption
 case a|b|c=>kernel_rfl
 case d|e=>rfl
theorem QT2:QiY Tryz.prog sF:=by
 unfold QiY
 rw[show sF "ai" =393 by kernel_rfl]
 intro f g l r hf hg h1 h2
 refine fcQ [.t 8] QiO 4 Tryz.func393 ?a ?b ?c ?d ?e ?f
 case f=>have hw:=QWZ (P:=Tryz.prog) (F:=sF) f g l r hf hg h1 h2;assumption
 case a|b|c=>kernel_rfl
 case d|e=>rfl
theorem QT3:QiF Tryz.prog sF:=by
 unfold QiF
 rw[show sF "aX" =461 by kernel_rfl]
 intro n hn
 refine fcQ [.t 2] Qis 1 Tryz.func461 ?a ?b ?c ?d ?e ?f
 case f=>have hw:=QWR (P:=Tryz.prog) (F:=sF) n hn;assumption
 case a|b|c=>kernel_rfl
 case d|e=>rfl
theorem Qo1:Qem Tryz.prog sF:=by
 unfold Qem
 rw[show sF "S" =468 by kernel_rfl]
 intro p r i h hl hi
 refine fcQ [.t 4] Qir 2 Tryz.func468 ?a ?b ?c ?d ?e ?f
 case f=>have hw:=QWP (P:=Tryz.prog) (F:=sF) p r i h hl hi;assumption
 case a|b|c=>kernel_rfl
 case d|e=>rfl
theorem QT4:QiE Tryz.prog sF:=by
 unfold QiE
 rw[show sF "bz" =462 by kernel_rfl]
 intro p r a b h hl ha hb
 refine FC.ofO (rs:=[]) (H:=wMd QWN sMd) (lc:=Qel sF) (n:=3) (outs:=[0]) Tryz.func462 Tryz.mx ?a ?b ?c ?d ?e ?f
 case f=>have hw:=QWQ Qo1 p r a b h hl ha hb;assumption
 case a|b|c=>kernel_rfl
 case d|e=>rfl
theorem QT5:QiG Tryz.prog sF:=by
 unfold QiG
 rw[show sF "bA" =463 by kernel_rfl]
 intro p r h hl
 refine fcQ [.t 2] Qiu 1 Tryz.func463 ?a ?b ?c ?d ?e ?f
 case f=>have hw:=QWS Qo1 p r h hl;assumption
 case a|b|c=>kernel_rfl
 case d|e=>rfl
theorem QT6:QiH Tryz.prog sF:=by
 unfold QiH
 rw[show sF "aF" =439 by kernel_rfl]
 intro n l hn hl hp
 refine fcQ [.t 4,.t 5] Qiw 2 Tryz.func439 ?a ?b ?c ?d ?e ?f
 case f=>have hw:=QWT QT3 QT4 QT5 n l hn hl hp;assumption
 case a|b|c=>kernel_rfl
 case d|e=>rfl
theorem QT7:QiI Tryz.prog sF:=by
 unfold QiI
 rw[show sF "cd" =469 by kernel_rfl]
 intro p hp hl
 refine fcQ [.t 2] Qiy 1 Tryz.func469 ?a ?b ?c ?d ?e ?f
 case f=>have hw:=QWU (P:=Tryz.prog) (F:=sF) p hp hl;assumption
 case a|b|c=>kernel_rfl
 case d|e=>rfl
theorem QT8:QiJ Tryz.prog sF:=by
 unfold QiJ
 rw[show sF "bY" =464 by kernel_rfl]
 intro p hp hl
 refine fcQ [.t 2] Qiz 1 Tryz.func464 ?a ?b ?c ?d ?e ?f
 case f=>have hw:=QWV QT7 p hp hl;assumption
 case a|b|c=>kernel_rfl
 case d|e=>rfl
theorem QT9:QiK Tryz.prog sF:=by
 unfold QiK
 rw[show sF "au" =440 by kernel_rfl]
 intro p hp hl
 refine fcQ [.t 2,.t 3,.t 4] QiA 1 Tryz.func440 ?a ?b ?c ?d ?e ?f
 case f=>have hw:=QWW QT8 p hp hl;assumption
 case a|b|c=>kernel_rfl
 case d|e=>rfl
theorem QUa:QiX Tryz.prog sF:=by
 unfold QiX
 rw[show sF "bd" =392 by kernel_rfl]
 intro g ns es hv l1 l2 p1 p2
 refine fcQ [.c 6 true 2,.c 7 true 2,.t 8] QiM 3 Tryz.func392 ?a ?b ?c ?d ?e ?f
 case f=>have hw:=QWY QT6 QT9 g ns es hv l1 l2 p1 p2;assumption
 case a|b|c=>kernel_rfl
 case d|e=>rfl
theorem QUb:QiZ Tryz.prog sF:=by
 unfold QiZ
 rw[show sF "al" =441 by kernel_rfl]
 intro l b hl hb
 refine fcQ [.t 4] QiP 2 Tryz.func441 ?a ?b ?c ?d ?e ?f
 case f=>have hw:=QW1 (P:=Tryz.prog) (F:=sF) l b hl hb;assumption
 case a|b|c=>kernel_rfl
 case d|e=>rfl
theorem QUc:Qi0 Tryz.prog sF:=by
 unfold Qi0
 rw[show sF "ax" =394 by kernel_rfl]
 intro m n h1 h2 h3 h4
 refine fcQ [.c 4 true 2] QiQ 2 Tryz.func394 ?a ?b ?c ?d ?e ?f
 case f=>have hw:=QW2 QUb m n h1 h2 h3 h4;assumption
 case a|b|c=>kernel_rfl
 case d|e=>rfl
theorem QUd:Qjc Tryz.prog sF:=by
 unfold Qjc
 rw[show sF "bh" =340 by kernel_rfl]
 intro s he
 refine fcQ [.c 2 true 2,.c 3 true 2,.c 4 true 2,.t 5] Qi6 1 Tryz.func340 ?a ?b ?c ?d ?e ?f
 case f=>have hw:=QW7 QT1 QT2 QUa QUc s he;assumption
 case a|b|c=>kernel_rfl
 case d|e=>rfl
theorem QUe:Qjd Tryz.prog sF:=by
 unfold Qjd
 rw[show sF "bL" =267 by kernel_rfl]
 intro s
 refine fcQ [.c 2 true 2,.c 3 true 2,.c 4 true 2,.t 5] Qi7 1 Tryz.func267 ?a ?b ?c ?d ?e ?f
 case f=>have hw:=QW8 QTX QUd s;assumption
 case a|b|c=>kernel_rfl
 case d|e=>rfl
theorem QUf:QmH Tryz.prog sF:=by
 unfold QmH
 rw[show sF "aA" =268 by kernel_rfl]
 intro p into keep h1 h2 h3 hb
 refine fcQ [.t 6] Qmz 3 Tryz.func268 ?a ?b ?c ?d ?e ?f
 case f=>have hw:=QZT QdN p into keep h1 h2 h3 hb;assumption
 case a|b|c=>kernel_rfl
 case d|e=>rfl
theorem QUg:QmL Tryz.prog sF:=by
 unfold QmL
 rw[show sF "bu" =180 by kernel_rfl]
 intro n ih c s hc hn hk5 hov hs
 refine FC.ofZ (rs:=[.c 4 true 9,.t 5]) (H:=wMd QZX sMd) (lc:=Qft sF) (n:=2) (outs:=[]) Tryz.func180 Tryz.mx ?a ?b ?c ?d ?e ?f
 case f=>have hw:=QZ5 QTL QTS QTU QoW QTV QTW QUe QUf n ih c s hc hn hk5 hov hs;assumption
 case a|b|c=>kernel_rfl
 case d|e=>first|rfl|(simp only[Q4];rfl)
theorem QUh:QmK Tryz.prog sF:=by
 unfold QmK
 intro n
 induction n using Nat.strongRecOn with
 |ind n ih=>
 unfold Qda
 rw[show sF "D" =90 by kernel_rfl]
 intro c s hc hn hov hs
 refine FC.ofZ (rs:=[.c 4 true 9,.t 5]) (H:=wMd QZW sMd) (lc:=Qfs sF) (n:=2) (outs:=[]) Tryz.func90 Tryz.mx ?a ?b ?c ?d ?e ?f
 case f=>have hw:=QZ4 QUg n ih c s hc hn hov hs;assumption
 case a|b|c=>kernel_rfl
 case d|e=>first|rfl|(simp only[Q4];rfl)
theorem QUi:QmM Tryz.prog sF:=by
 unfold QmM
 rw[show sF "bH" =43 by kernel_rfl]
 intro c s hc hov hs
 refine FC.ofZ (rs:=[.c 4 true 9,.t 5]) (H:=wMd QZY sMd) (lc:=Qfu sF) (n:=2) (outs:=[]) Tryz.func43 Tryz.mx ?a ?b ?c ?d ?e ?f
 case f=>have hw:=QZ7 QgX QUh c s hc hov hs;assumption
 case a|b|c=>kernel_rfl
 case d|e=>first|rfl|(simp only[Q4];rfl)
theorem Qo2:Qfw Tryz.prog sF:=by
 unfold Qfw
 rw[show sF "q" =12 by kernel_rfl]
 intro nm c s hc hov hs
 refine FC.ofZ (rs:=[.c 4 true 9,.t 5]) (H:=wMd QZZ sMd) (lc:=Qfv sF) (n:=2) (outs:=[]) Tryz.func12 Tryz.mx ?a ?b ?c ?d ?e ?f
 case f=>have hw:=QZ8 QTE QTF QUi nm c s hc hov hs;assumption
 case a|b|c=>kernel_rfl
 case d|e=>first|rfl|(simp only[Q4];rfl)
theorem Qo3:Qfa Tryz.prog sF:=by
 unfold Qfa
 rw[show sF "aI" =39 by kernel_rfl]
 intro a b m hm
 refine fcQ [.t 6] QlF 3 Tryz.func39 ?a ?b ?c ?d ?e ?f
 case f=>have hw:=QZa QbA QgW a b m hm;assumption
 case a|b|c=>kernel_rfl
 case d|e=>rfl
theorem QUj:Qmq Tryz.prog sF:=by
 unfold Qmq
 rw[show sF "aw" =102 by kernel_rfl]
 intro n ha c a x h hc hn ho hh
 refine fcQ [.t 4] Qml 3 Tryz.func102 ?a ?b ?c ?d ?e ?f
 case f=>have hw:=QZG (P:=Tryz.prog) (F:=sF) n ha c a x h hc hn ho hh;assumption
 case a|b|c=>kernel_rfl
 case d|e=>first|rfl|(simp only[Q4];rfl)
theorem QUk:Qmr Tryz.prog sF:=by
 unfold Qmr
 rw[show sF "ak" =103 by kernel_rfl]
 intro n ha c a x h hc hn ho hh
 refine fcQ [.t 4] Qmm 3 Tryz.func103 ?a ?b ?c ?d ?e ?f
 case f=>have hw:=QZH (P:=Tryz.prog) (F:=sF) n ha c a x h hc hn ho hh;assumption
 case a|b|c=>kernel_rfl
 case d|e=>first|rfl|(simp only[Q4];rfl)
theorem QUl:Qms Tryz.prog sF:=by
 unfold Qms
 rw[show sF "R" =106 by kernel_rfl]
 intro n ha m p c x q hc hn ho hq
 refine fcQ [.t 4] Qmn 3 Tryz.func106 ?a ?b ?c ?d ?e ?f
 case f=>have hw:=QZI (P:=Tryz.prog) (F:=sF) n ha m p c x q hc hn ho hq;assumption
 case a|b|c=>kernel_rfl
 case d|e=>rfl
theorem QUm:Qmb Tryz.prog sF:=by
 unfold Qmb
 rw[show sF "cb" =185 by kernel_rfl]
 intro l hl g cs hcs p hg
 refine fcQ [.t 4] Ql9 2 Tryz.func185 ?a ?b ?c ?d ?e ?f
 case f=>have hw:=QZy (P:=Tryz.prog) (F:=sF) l hl g cs hcs p hg;assumption
 case a|b|c=>kernel_rfl
 case d=>rfl
 case e=>first|rfl|(simp only[List.all_cons,List.all_nil,Bool.and_true];first|rfl|assumption|exact Qbz hcs)
theorem QUn:Qmc Tryz.prog sF:=by
 unfold Qmc
 rw[show sF "aO" =104 by kernel_rfl]
 intro l hl g cs hcs p hg
 refine fcQ [.t 4] Qma 2 Tryz.func104 ?a ?b ?c ?d ?e ?f
 case f=>have hw:=QZz QUm l hl g cs hcs p hg;assumption
 case a|b|c=>kernel_rfl
 case d=>rfl
 case e=>first|rfl|(simp only[List.all_cons,List.all_nil,Bool.and_true];first|rfl|assumption|exact Qbz hcs)
theorem QUo:Ql4 Tryz.prog sF:=by
 unfold Ql4
 rw[show sF "bM" =342 by kernel_rfl]
 intro n h0 h1
 refine fcQ [.t 4,.t 5] QlY 2 Tryz.func342 ?a ?b ?c ?d ?e ?f
 case f=>have hw:=QZp (P:=Tryz.prog) (F:=sF) n h0 h1;assumption
 case a|b|c=>kernel_rfl
 case d|e=>rfl
theorem QUp:Ql5 Tryz.prog sF:=by
 unfold Ql5
 rw[show sF "bK" =269 by kernel_rfl]
 intro n h0 h1
 refine fcQ [.t 4,.t 5] QlZ 2 Tryz.func269 ?a ?b ?c ?d ?e ?f
 case f=>have hw:=QZq QUo n h0 h1;assumption
 case a|b|c=>kernel_rfl
 case d|e=>rfl
theorem QUq:Ql7 Tryz.prog sF:=by
 unfold Ql7
 rw[show sF "bO" =186 by kernel_rfl]
 intro v n hn
 refine fcQ [.t 4] Ql1 2 Tryz.func186 ?a ?b ?c ?d ?e ?f
 case f=>have hw:=QZw QUp v n hn;assumption
 case a|b|c=>kernel_rfl
 case d|e=>rfl
theorem QUr:Ql6 Tryz.prog sF:=by
 unfold Ql6
 rw[show sF "aN" =105 by kernel_rfl]
 intro n q m hn hq hm hb
 refine fcQ [.t 6] Ql3 3 Tryz.func105 ?a ?b ?c ?d ?e ?f
 case f=>have hw:=QZx QUq n q m hn hq hm hb;assumption
 case a|b|c=>kernel_rfl
 case d|e=>rfl
theorem QUs:Qme Tryz.prog sF:=by
 unfold Qme
 intro k
 induction k using Nat.strongRecOn with
 |ind k ih=>
 unfold Qmd
 rw[show sF "k" =187 by kernel_rfl]
 intro p g N E i f ca cb acc hk ho vp vg hN hE ha
 refine FC.ofO (rs:=[.t 4]) (H:=wMd QZA sMd) (lc:=Qfj sF) (n:=2) (outs:=[0]) Tryz.func187 Tryz.mx ?a ?b ?c ?d ?e ?f
 case f=>have hw:=QZD Qa2 Qay k ih p g N E i f ca cb acc hk ho vp vg hN hE ha;assumption
 case a|b|c=>kernel_rfl
 case d|e=>rfl
theorem QUt:Qmg Tryz.prog sF:=by
 unfold Qmg
 intro k
 induction k using Nat.strongRecOn with
 |ind k ih=>
 unfold Qmf
 rw[show sF "g" =107 by kernel_rfl]
 intro p g N E i f ca cb acc hk ho vp vg hN ha
 refine FC.ofO (rs:=[.t 4]) (H:=wMd QZB sMd) (lc:=Qfk sF) (n:=2) (outs:=[0]) Tryz.func107 Tryz.mx ?a ?b ?c ?d ?e ?f
 case f=>have hw:=QZE QUs Qay k ih p g N E i f ca cb acc hk ho vp vg hN ha;assumption
 case a|b|c=>kernel_rfl
 case d|e=>rfl
theorem QUu:Qmp Tryz.prog sF:=by
 unfold Qmp
 intro n
 induction n using Nat.strongRecOn with
 |ind n ih=>
 unfold Qao
 rw[show sF "w" =52 by kernel_rfl]
 intro c a x h hc hn ho hh
 refine fcQ [.t 6] Qmk 3 Tryz.func52 ?a ?b ?c ?d ?e ?f
 case f=>have hw:=QZJ QUj QUk QUl QUn QUr QUt n ih c a x h hc hn ho hh;assumption
 case a|b|c=>kernel_rfl
 case d|e=>first|rfl|(simp only[Q4];rfl)
theorem Qo4:Qfn Tryz.prog sF:=by
 unfold Qfn
 rw[show sF "j" =18 by kernel_rfl]
 intro a c x h hc hL ho hh
 refine fcQ [.t 8,.t 9] Qmo 4 Tryz.func18 ?a ?b ?c ?d ?e ?f
 case f=>have hw:=QZK Qo3 QgX QUu a c x h hc hL ho hh;assumption
 case a|b|c=>kernel_rfl
 case d|e=>first|rfl|(simp only[Q4];rfl)
theorem QUv:QmZ Tryz.prog sF:=by
 unfold QmZ
 rw[show sF "T" =5 by kernel_rfl]
 refine fcQ [.t 0] QmV 0 Tryz.func5 ?a ?b ?c ?d ?e ?f
 case f=>have hw:=Q0k Qo2 Qo4;assumption
 case a|b|c=>kernel_rfl
 case d|e=>rfl
theorem Qo5:QdS Tryz.prog sF:=by
 unfold QdS
 rw[show sF "aa" =14 by kernel_rfl]
 intro x hx h1 h2
 refine fcQ [.c 2 true 2] Qhv 1 Tryz.func14 ?a ?b ?c ?d ?e ?f
 case f=>have hw:=QVM (P:=Tryz.prog) (F:=sF) x hx h1 h2;assumption
 case a|b|c=>kernel_rfl
 case d|e=>rfl
theorem QUw:Qj6 Tryz.prog sF:=by
 unfold Qj6
 rw[show sF "aK" =78 by kernel_rfl]
 intro b hb
 refine FC.of' (rs:=[.t 2]) (H:=wMd QXQ sMd) (lc:=Qj2 sF) (n:=1) Tryz.func78 Tryz.mx ?a ?b ?c ?d ?e ?f
 case f=>have hw:=QXS (P:=Tryz.prog) (F:=sF) b hb;assumption
 case a|b|c=>kernel_rfl
 case d|e=>rfl
theorem QUx:Qj7 Tryz.prog sF:=by
 unfold Qj7
 rw[show sF "bv" =32 by kernel_rfl]
 intro g bn be hv h1 h2
 refine FC.of' (rs:=[.c 6 true 2]) (H:=wMd QXR sMd) (lc:=Qj3 sF) (n:=3) Tryz.func32 Tryz.mx ?a ?b ?c ?d ?e ?f
 case f=>have hw:=QXT QUw g bn be hv h1 h2;assumption
 case a|b|c=>kernel_rfl
 case d|e=>rfl
theorem Qo6:QeG Tryz.prog sF:=by
 unfold QeG
 rw[show sF "ae" =8 by kernel_rfl]
 intro g s hv
 refine fcQ [.c 4 true 2] Qkm 2 Tryz.func8 ?a ?b ?c ?d ?e ?f
 case f=>have hw:=QX8 QUx g s hv;assumption
 case a|b|c=>kernel_rfl
 case d|e=>rfl
theorem Qo7:QdR Tryz.prog sF:=by
 unfold QdR
 rw[show sF "aE" =91 by kernel_rfl]
 intro n
 refine fcQ [.t 2] Qhl 1 Tryz.func91 ?a ?b ?c ?d ?e ?f
 case f=>have hw:=QVF (P:=Tryz.prog) (F:=sF) n;assumption
 case a|b|c=>kernel_rfl
 case d|e=>rfl
theorem QUy:Qhs Tryz.prog sF:=by
 unfold Qhs
 rw[show sF "bc" =92 by kernel_rfl]
 intro x n
 refine fcQ [.t 4] Qhm 2 Tryz.func92 ?a ?b ?c ?d ?e ?f
 case f=>have hw:=QVG Qo7 x n;assumption
 case a|b|c=>kernel_rfl
 case d|e=>rfl
theorem Qct:Qa3 Tryz.prog sF:=by
 unfold Qa3
 rw[show sF "d" =45 by kernel_rfl]
 intro g
 refine FC.of' (rs:=[.t 2]) (H:=wMd QVH sMd) (lc:=Qhu sF) (n:=1) Tryz.func45 Tryz.mx ?a ?b ?c ?d ?e ?f
 case f=>have hw:=QVI Qo7 QUy g;assumption
 case a|b|c=>kernel_rfl
 case d|e=>rfl
theorem QUz:QjB Tryz.prog sF:=by
 unfold QjB
 rw[show sF "ah" =163 by kernel_rfl]
 intro l n hl h0 h1
 refine FC.of' (rs:=[.t 4]) (H:=wMd QXk sMd) (lc:=Qjr sF) (n:=2) Tryz.func163 Tryz.mx ?a ?b ?c ?d ?e ?f
 case f=>have hw:=QXt (P:=Tryz.prog) (F:=sF) l n hl h0 h1;assumption
 case a|b|c=>kernel_rfl
 case d|e=>rfl
theorem QUA:QjA Tryz.prog sF:=by
 unfold QjA
 rw[show sF "an" =164 by kernel_rfl]
 intro l n hl
 refine FC.of' (rs:=[.t 4]) (H:=wMd QXi sMd) (lc:=Qjp sF) (n:=2) Tryz.func164 Tryz.mx ?a ?b ?c ?d ?e ?f
 case f=>have hw:=QXm (P:=Tryz.prog) (F:=sF) l n hl;assumption
 case a|b|c=>kernel_rfl
 case d|e=>rfl
theorem QUB:QjC Tryz.prog sF:=by
 unfold QjC
 rw[show sF "ba" =77 by kernel_rfl]
 intro g p hv h1 h2
 refine FC.of' (rs:=[.t 4]) (H:=wMd QXl sMd) (lc:=Qjs sF) (n:=2) Tryz.func77 Tryz.mx ?a ?b ?c ?d ?e ?f
 case f=>have hw:=QXw QUz QUA g p hv h1 h2;assumption
 case a|b|c=>kernel_rfl
 case d|e=>rfl
theorem Qo8:Qet Tryz.prog sF:=by
 unfold Qet
 rw[show sF "at" =30 by kernel_rfl]
 intro g p h1 h2
 refine fcQ [.t 4] Qjt 2 Tryz.func30 ?a ?b ?c ?d ?e ?f
 case f=>have hw:=QXy Qct QUB g p h1 h2;assumption
 case a|b|c=>kernel_rfl
 case d|e=>rfl
theorem QUC:Qkx Tryz.prog sF:=by
 unfold Qkx
 rw[show sF "L" =31 by kernel_rfl]
 intro l x hl
 refine FC.of' (rs:=[.t 4]) (H:=wMd QYb sMd) (lc:=Qkt sF) (n:=2) Tryz.func31 Tryz.mx ?a ?b ?c ?d ?e ?f
 case f=>have hw:=QYd (P:=Tryz.prog) (F:=sF) l x hl;assumption
 case a|b|c=>kernel_rfl
 case d|e=>rfl
theorem QgY:QcR Tryz.prog sF:=by
 unfold QcR
 rw[show sF "C" =7 by kernel_rfl]
 intro g p h1
 refine FC.of' (rs:=[.c 4 true 2,.c 5 true 2,.t 6]) (H:=wMd QYc sMd) (lc:=Qkw sF) (n:=2) Tryz.func7 Tryz.mx ?a ?b ?c ?d ?e ?f
 case f=>have hw:=QYe Qo8 QUC g p h1;assumption
 case a|b|c=>kernel_rfl
 case d|e=>rfl
theorem QgZ:Qcv Tryz.prog sF:=by
 unfold Qcv
 rw[show sF "t" =46 by kernel_rfl]
 intro g h0 h1
 refine fcQ [.c 2 true 2] Qhn 1 Tryz.func46 ?a ?b ?c ?d ?e ?f
 case f=>have hw:=QVD (P:=Tryz.prog) (F:=sF) g h0 h1;assumption
 case a|b|c=>kernel_rfl
 case d|e=>rfl
theorem Qg0:QcE Tryz.prog sF:=by
 unfold QcE
 rw[show sF "F" =159 by kernel_rfl]
 intro n h2
 refine fcQ [.t 2] Qh7 1 Tryz.func159 ?a ?b ?c ?d ?e ?f
 case f=>have hw:=QWw (P:=Tryz.prog) (F:=sF) n h2;assumption
 case a|b|c=>kernel_rfl
 case d|e=>rfl
theorem Qo9:Qd5 Tryz.prog sF:=by
 unfold Qd5
 rw[show sF "K" =75 by kernel_rfl]
 intro g h1 h2
 refine fcQ [.c 2 true 2] Qh8 1 Tryz.func75 ?a ?b ?c ?d ?e ?f
 case f=>have hw:=QWy Qg0 g h1 h2;assumption
 case a|b|c=>kernel_rfl
 case d|e=>rfl
theorem QUD:Qh2 Tryz.prog sF:=by
 unfold Qh2
 rw[show sF "bm" =160 by kernel_rfl]
 intro l hl hb
 refine fcQ [.t 2] QhW 1 Tryz.func160 ?a ?b ?c ?d ?e ?f
 case f=>have hw:=QWq (P:=Tryz.prog) (F:=sF) l hl hb;assumption
 case a|b|c=>kernel_rfl
 case d|e=>rfl
theorem Qpa:Qd3 Tryz.prog sF:=by
 unfold Qd3
 rw[show sF "aJ" =161 by kernel_rfl]
 intro p a b hl ha hb
 refine FC.of' (rs:=[.t 6]) (H:=wMd QWn sMd) (lc:=QhX sF) (n:=3) Tryz.func161 Tryz.mx ?a ?b ?c ?d ?e ?f
 case f=>have hw:=QWr (P:=Tryz.prog) (F:=sF) p a b hl ha hb;assumption
 case a|b|c=>kernel_rfl
 case d|e=>rfl
theorem QUE:Qh3 Tryz.prog sF:=by
 unfold Qh3
 rw[show sF "bD" =333 by kernel_rfl]
 intro p hp
 refine FC.of' (rs:=[.t 2]) (H:=wMd QWo sMd) (lc:=QhZ sF) (n:=1) Tryz.func333 Tryz.mx ?a ?b ?c ?d ?e ?f
 case f=>have hw:=QWs (P:=Tryz.prog) (F:=sF) p hp;assumption
 case a|b|c=>kernel_rfl
 case d|e=>rfl
theorem QUF:Qh4 Tryz.prog sF:=by
 unfold Qh4
 rw[show sF "be" =250 by kernel_rfl]
 intro p hp
 refine fcQ [.t 2] Qh0 1 Tryz.func250 ?a ?b ?c ?d ?e ?f
 case f=>have hw:=QWt QUE p hp;assumption
 case a|b|c=>kernel_rfl
 case d|e=>rfl
theorem Qpb:Qd4 Tryz.prog sF:=by
 unfold Qd4
 rw[show sF "P" =162 by kernel_rfl]
 intro p hp
 refine FC.of' (rs:=[.t 2,.t 3,.t 4]) (H:=wMd QWp sMd) (lc:=Qh1 sF) (n:=1) Tryz.func162 Tryz.mx ?a ?b ?c ?d ?e ?f
 case f=>have hw:=QWu QUF p hp;assumption
 case a|b|c=>kernel_rfl
 case d|e=>rfl
theorem QUG:Qkd Tryz.prog sF:=by
 unfold Qkd
 rw[show sF "bl" =76 by kernel_rfl]
 intro g l hv hl hb
 refine FC.of' (rs:=[.c 4 true 2,.c 5 true 2]) (H:=wMd QXY sMd) (lc:=Qkc sF) (n:=2) Tryz.func76 Tryz.mx ?a ?b ?c ?d ?e ?f
 case f=>have hw:=QX0 QUD Qg0 Qpa Qpb g l hv hl hb;assumption
 case a|b|c=>kernel_rfl
 case d|e=>rfl
theorem QUH:Qkf Tryz.prog sF:=by
 unfold Qkf
 rw[show sF "bs" =28 by kernel_rfl]
 intro a c hv hl hb
 refine FC.of' (rs:=[.c 4 true 2,.c 5 true 2]) (H:=wMd QX1 sMd) (lc:=Qke sF) (n:=2) Tryz.func28 Tryz.mx ?a ?b ?c ?d ?e ?f
 case f=>have hw:=QX6 QgZ Qo9 QUG a c hv hl hb;assumption
 case a|b|c=>kernel_rfl
 case d|e=>rfl
theorem QUI:QmS Tryz.prog sF:=by
 unfold QmS
 rw[show sF "bC" =29 by kernel_rfl]
 intro s
 refine FC.ofZ (rs:=[.c 8 true 25]) (H:=wMd Q0c sMd) (lc:=Qfy sF) (n:=4) (outs:=[]) Tryz.func29 Tryz.mx ?a ?b ?c ?d ?e ?f
 case f=>have hw:=Q0f (P:=Tryz.prog) (F:=sF) s;assumption
 case a|b|c=>kernel_rfl
 case d|e=>rfl
theorem QUJ:QmT Tryz.prog sF:=by
 unfold QmT
 rw[show sF "aT" =6 by kernel_rfl]
 intro x h
 refine FC.ofZ (rs:=[.c 2 true 25]) (H:=wMd Q0d sMd) (lc:=Qfz sF) (n:=1) (outs:=[]) Tryz.func6 Tryz.mx ?a ?b ?c ?d ?e ?f
 case f=>have hw:=Q0g Qo5 Qo6 QgY QUH QUI x h;assumption
 case a|b|c=>kernel_rfl
 case d|e=>rfl
theorem QUK:Qm1 Tryz.prog sF:=by
 unfold Qm1
 rw[show sF "aG" =79 by kernel_rfl]
 intro cs i f hl h0 h1 hb
 refine FC.ofO (rs:=[.t 2]) (H:=wMd Q0m sMd) (lc:=QfA sF) (n:=1) (outs:=[0]) Tryz.func79 Tryz.mx ?a ?b ?c ?d ?e ?f
 case f=>have hw:=Q0t (P:=Tryz.prog) (F:=sF) cs i f hl h0 h1 hb;assumption
 case a|b|c=>kernel_rfl
 case d|e=>rfl
theorem Qpc:QeY Tryz.prog sF:=by
 unfold QeY
 rw[show sF "i" =35 by kernel_rfl]
 refine FC.ofZ (rs:=[.c 0 true 9]) (H:=wMd QYC sMd) (lc:=QeS sF) (n:=0) (outs:=[]) Tryz.func35 Tryz.mx ?a ?b ?c ?d ?e ?f
 case f=>have hw:=QYI (P:=Tryz.prog) (F:=sF);assumption
 case a|b|c=>kernel_rfl
 case d|e=>first|rfl|(simp only[Q4];rfl)
theorem QUL:Qm3 Tryz.prog sF:=by
 unfold Qm3
 intro n
 induction n using Nat.strongRecOn with
 |ind n ih=>
 unfold Qm2
 rw[show sF "h" =33 by kernel_rfl]
 intro cs i f a d hl hb h0 h1 h2 h3 va d0 d2
 refine FC.ofZ (rs:=[.c 6 true 9]) (H:=wMd Q0n sMd) (lc:=Qdc sF) (n:=3) (outs:=[0]) Tryz.func33 Tryz.mx ?a ?b ?c ?d ?e ?f
 case f=>have hw:=Q0v QUK Qpc QgZ Qo9 n ih cs i f a d hl hb h0 h1 h2 h3 va d0 d2;assumption
 case a|b|c=>kernel_rfl
 case d|e=>first|rfl|(simp only[Q4];rfl)
theorem Qg1:Qc0 Tryz.prog sF:=by
 unfold Qc0
 intro n
 induction n using Nat.strongRecOn with
 |ind n ih=>
 unfold Qld
 rw[show sF "m" =34 by kernel_rfl]
 intro c hc hn
 refine FC.of' (rs:=[.t 2,.t 3]) (H:=wMd QYE sMd) (lc:=QkZ sF) (n:=1) Tryz.func34 Tryz.mx ?a ?b ?c ?d ?e ?f
 case f=>have hw:=QYL (P:=Tryz.prog) (F:=sF) n ih c hc hn;assumption
 case a|b|c=>kernel_rfl
 case d|e=>first|rfl|(simp only[Q4];rfl)
theorem QUM:Qm4 Tryz.prog sF:=by
 unfold Qm4
 rw[show sF "bb" =9 by kernel_rfl]
 intro a cs va hl hb
 refine FC.ofZ (rs:=[.c 4 true 9]) (H:=wMd Q0o sMd) (lc:=QfB sF) (n:=2) (outs:=[]) Tryz.func9 Tryz.mx ?a ?b ?c ?d ?e ?f
 case f=>have hw:=Q0w QUL Qg1 Qpc a cs va hl hb;assumption
 case a|b|c=>kernel_rfl
 case d|e=>first|rfl|(simp only[Q4];rfl)
theorem QUN:Qlj Tryz.prog sF:=by
 unfold Qlj
 intro n
 induction n using Nat.strongRecOn with
 |ind n ih=>
 unfold Qli
 rw[show sF "o" =36 by kernel_rfl]
 intro c a b hc hn
 refine FC.of' (rs:=[.t 6]) (H:=wMd QYG sMd) (lc:=Qk4 sF) (n:=3) Tryz.func36 Tryz.mx ?a ?b ?c ?d ?e ?f
 case f=>have hw:=QYP (P:=Tryz.prog) (F:=sF) n ih c a b hc hn;assumption
 case a|b|c=>kernel_rfl
 case d|e=>first|rfl|(simp only[Q4];rfl)
theorem QUO:Qht Tryz.prog sF:=by
 unfold Qht
 rw[show sF "bq" =37 by kernel_rfl]
 intro g
 refine fcQ [.t 2] Qho 1 Tryz.func37 ?a ?b ?c ?d ?e ?f
 case f=>have hw:=QVE (P:=Tryz.prog) (F:=sF) g;assumption
 case a|b|c=>kernel_rfl
 case d|e=>rfl
theorem QUP:Qlb Tryz.prog sF:=by
 unfold Qlb
 rw[show sF "X" =251 by kernel_rfl]
 intro k l
 refine fcQ [.t 2] QkX 1 Tryz.func251 ?a ?b ?c ?d ?e ?f
 case f=>have hw:=QYJ (P:=Tryz.prog) (F:=sF) k l;assumption
 case a|b|c=>kernel_rfl
 case d|e=>rfl
theorem QUQ:Qlc Tryz.prog sF:=by
 unfold Qlc
 rw[show sF "aY" =165 by kernel_rfl]
 intro c hs
 refine FC.of' (rs:=[.t 2]) (H:=wMd QYD sMd) (lc:=QkY sF) (n:=1) Tryz.func165 Tryz.mx ?a ?b ?c ?d ?e ?f
 case f=>have hw:=QYK QUP c hs;assumption
 case a|b|c=>kernel_rfl
 case d|e=>first|rfl|(simp only[Q4];rfl)
theorem QdO:QbF Tryz.prog sF:=by
 unfold QbF
 rw[show sF "s" =157 by kernel_rfl]
 intro a b m
 refine FC.of' (rs:=[.t 6]) (H:=wMd QVP sMd) (lc:=Qhx sF) (n:=3) Tryz.func157 Tryz.mx ?a ?b ?c ?d ?e ?f
 case f=>have hw:=QVR Qct a b m;assumption
 case a|b|c=>kernel_rfl
 case d|e=>rfl
theorem Qpd:QdX Tryz.prog sF:=by
 unfold QdX
 rw[show sF "v" =16 by kernel_rfl]
 intro l hl
 refine FC.of' (rs:=[.t 2]) (H:=wMd QV0 sMd) (lc:=QhE sF) (n:=1) Tryz.func16 Tryz.mx ?a ?b ?c ?d ?e ?f
 case f=>have hw:=QWa (P:=Tryz.prog) (F:=sF) l hl;assumption
 case a|b|c=>kernel_rfl
 case d|e=>rfl
theorem QUR:QhH Tryz.prog sF:=by
 unfold QhH
 rw[show sF "bW" =72 by kernel_rfl]
 intro a b m h1 h2
 refine fcQ [.t 6] QhF 3 Tryz.func72 ?a ?b ?c ?d ?e ?f
 case f=>have hw:=QWb QdO Qpd a b m h1 h2;assumption
 case a|b|c=>kernel_rfl
 case d|e=>rfl
theorem QUS:Qlf Tryz.prog sF:=by
 unfold Qlf
 intro n
 induction n using Nat.strongRecOn with
 |ind n ih=>
 unfold Qle
 rw[show sF "y" =80 by kernel_rfl]
 intro a c hc hn va ho
 refine FC.of' (rs:=[.t 4]) (H:=wMd QYF sMd) (lc:=Qk1 sF) (n:=2) Tryz.func80 Tryz.mx ?a ?b ?c ?d ?e ?f
 case f=>have hw:=QYM QUQ QdO QUR n ih a c hc hn va ho;assumption
 case a|b|c=>kernel_rfl
 case d|e=>first|rfl|(simp only[Q4];rfl)
theorem QUT:Qlg Tryz.prog sF:=by
 unfold Qlg
 rw[show sF "bP" =81 by kernel_rfl]
 intro c h
 refine fcQ [.t 2] Qk2 1 Tryz.func81 ?a ?b ?c ?d ?e ?f
 case f=>have hw:=QYN Qg1 c h;assumption
 case a|b|c=>kernel_rfl
 case d|e=>first|rfl|(simp only[Q4];rfl)
theorem QUU:Qlh Tryz.prog sF:=by
 unfold Qlh
 rw[show sF "aQ" =38 by kernel_rfl]
 intro a c h va hov
 refine fcQ [.t 4] Qk3 2 Tryz.func38 ?a ?b ?c ?d ?e ?f
 case f=>have hw:=QYO Qct QUS QUT a c h va hov;assumption
 case a|b|c=>kernel_rfl
 case d|e=>first|rfl|(simp only[Q4];rfl)
theorem QUV:Qlk Tryz.prog sF:=by
 unfold Qlk
 rw[show sF "bT" =10 by kernel_rfl]
 intro a c h va ho
 refine fcQ [.t 4] Qk5 2 Tryz.func10 ?a ?b ?c ?d ?e ?f
 case f=>have hw:=QYQ Qg1 QUN QUO QUU a c h va ho;assumption
 case a|b|c=>kernel_rfl
 case d|e=>first|rfl|(simp only[Q4];rfl)
theorem QUW:Qh9 Tryz.prog sF:=by
 unfold Qh9
 rw[show sF "ag" =459 by kernel_rfl]
 intro n hn
 refine fcQ [.t 2] Qh5 1 Tryz.func459 ?a ?b ?c ?d ?e ?f
 case f=>have hw:=QWv (P:=Tryz.prog) (F:=sF) n hn;assumption
 case a|b|c=>kernel_rfl
 case d|e=>rfl
theorem QUX:Qia Tryz.prog sF:=by
 unfold Qia
 rw[show sF "bE" =436 by kernel_rfl]
 intro g
 refine fcQ [.c 2 true 2,.t 3] Qh6 1 Tryz.func436 ?a ?b ?c ?d ?e ?f
 case f=>have hw:=QWx Qa1 QUW g;assumption
 case a|b|c=>kernel_rfl
 case d|e=>rfl
theorem QUY:Qln Tryz.prog sF:=by
 unfold Qln
 rw[show sF "aZ" =390 by kernel_rfl]
 intro b p ns es vb vp l1 l2
 refine fcQ [.c 8 true 6] Qll 4 Tryz.func390 ?a ?b ?c ?d ?e ?f
 case f=>have hw:=QYY QUX Qa2 Qo0 b p ns es vb vp l1 l2;assumption
 case a|b|c=>kernel_rfl
 case d|e=>rfl
theorem QUZ:Qlp Tryz.prog sF:=by
 unfold Qlp
 intro n
 induction n using Nat.strongRecOn with
 |ind n ih=>
 unfold Qlo
 rw[show sF "H" =336 by kernel_rfl]
 intro b p ns es out vb vp h1 h2 h5
 refine FC.ofO (rs:=[]) (H:=wMd QYR sMd) (lc:=Qe1 sF) (n:=3) (outs:=[0]) Tryz.func336 Tryz.mx ?a ?b ?c ?d ?e ?f
 case f=>have hw:=QY0 QUY Qa2 Qay n ih b p ns es out vb vp h1 h2 h5;assumption
 case a|b|c=>kernel_rfl
 case d|e=>rfl
theorem QU0:Qlr Tryz.prog sF:=by
 unfold Qlr
 intro n
 induction n using Nat.strongRecOn with
 |ind n ih=>
 unfold Qlq
 rw[show sF "E" =258 by kernel_rfl]
 intro b p ns out vb vp h2 h5
 refine FC.ofO (rs:=[]) (H:=wMd QYS sMd) (lc:=Qe2 sF) (n:=2) (outs:=[0]) Tryz.func258 Tryz.mx ?a ?b ?c ?d ?e ?f
 case f=>have hw:=QY1 QUZ Qa2 Qay n ih b p ns out vb vp h2 h5;assumption
 case a|b|c=>kernel_rfl
 case d|e=>rfl
theorem QU1:Qls Tryz.prog sF:=by
 unfold Qls
 rw[show sF "aU" =175 by kernel_rfl]
 intro b p vb vp
 refine FC.ofZ (rs:=[.t 4,.t 5]) (H:=wMd QYT sMd) (lc:=Qe3 sF) (n:=2) (outs:=[]) Tryz.func175 Tryz.mx ?a ?b ?c ?d ?e ?f
 case f=>have hw:=QY2 Qa1 QU0 b p vb vp;assumption
 case a|b|c=>kernel_rfl
 case d|e=>rfl
theorem QU2:QlO Tryz.prog sF:=by
 unfold QlO
 rw[show sF "x" =176 by kernel_rfl]
 intro a b c d h1 h2 h3
 refine fcQ [.t 8] QlG 4 Tryz.func176 ?a ?b ?c ?d ?e ?f
 case f=>have hw:=QZb (P:=Tryz.prog) (F:=sF) a b c d h1 h2 h3;assumption
 case a|b|c=>kernel_rfl
 case d|e=>rfl
theorem QU3:QlS Tryz.prog sF:=by
 unfold QlS
 intro n
 induction n using Nat.strongRecOn with
 |ind n ih=>
 unfold QlR
 rw[show sF "r" =87 by kernel_rfl]
 intro c a b m z e hc hn hov hm h0 h1
 refine FC.ofZ (rs:=[.c 8 true 9]) (H:=wMd QZc sMd) (lc:=Qfb sF) (n:=4) (outs:=[0]) Tryz.func87 Tryz.mx ?a ?b ?c ?d ?e ?f
 case f=>have hw:=QZh QU1 QU2 n ih c a b m z e hc hn hov hm h0 h1;assumption
 case a|b|c=>kernel_rfl
 case d|e=>first|rfl|(simp only[Q4];rfl)
theorem QU4:QlT Tryz.prog sF:=by
 unfold QlT
 rw[show sF "aW" =41 by kernel_rfl]
 intro c a b m hc hov hm
 refine FC.ofZ (rs:=[.c 6 true 9,.t 7]) (H:=wMd QZd sMd) (lc:=Qfc sF) (n:=3) (outs:=[]) Tryz.func41 Tryz.mx ?a ?b ?c ?d ?e ?f
 case f=>have hw:=QZi QU3 c a b m hc hov hm;assumption
 case a|b|c=>kernel_rfl
 case d|e=>first|rfl|(simp only[Q4];rfl)
theorem QU5:QlU Tryz.prog sF:=by
 unfold QlU
 rw[show sF "O" =11 by kernel_rfl]
 intro c a b m hc hd hov hm
 refine FC.ofZ (rs:=[.c 8 true 9,.t 9]) (H:=wMd QZe sMd) (lc:=Qfd sF) (n:=4) (outs:=[]) Tryz.func11 Tryz.mx ?a ?b ?c ?d ?e ?f
 case f=>have hw:=QZj Qo3 QgX QU4 c a b m hc hd hov hm;assumption
 case a|b|c=>kernel_rfl
 case d|e=>first|rfl|(simp only[Q4];rfl)
theorem QU6:Qhr Tryz.prog sF:=by
 unfold Qhr
 rw[show sF "B" =47 by kernel_rfl]
 intro f n h0 h1 h2
 refine fcQ [.t 4] Qhp 2 Tryz.func47 ?a ?b ?c ?d ?e ?f
 case f=>have hw:=QVC (P:=Tryz.prog) (F:=sF) f n h0 h1 h2;assumption
 case a|b|c=>kernel_rfl
 case d|e=>rfl
theorem Qpe:Qee Tryz.prog sF:=by
 unfold Qee
 rw[show sF "aC" =13 by kernel_rfl]
 intro a b
 refine FC.of' (rs:=[.c 4 true 2,.c 5 true 2,.c 6 true 2,.t 7]) (H:=wMd QWG sMd) (lc:=Qij sF) (n:=2) Tryz.func13 Tryz.mx ?a ?b ?c ?d ?e ?f
 case f=>have hw:=QWK Qct QgZ QU6 a b;assumption
 case a|b|c=>kernel_rfl
 case d|e=>rfl
theorem QU7:QkF Tryz.prog sF:=by
 unfold QkF
 intro n
 induction n using Nat.strongRecOn with
 |ind n ih=>
 unfold QkE
 rw[show sF "Q" =93 by kernel_rfl]
 intro a b ns es out va vb h1 h2 h3
 refine FC.of' (rs:=[.t 10]) (H:=wMd QYj sMd) (lc:=QkA sF) (n:=5) Tryz.func93 Tryz.mx ?a ?b ?c ?d ?e ?f
 case f=>have hw:=QYo (P:=Tryz.prog) (F:=sF) n ih a b ns es out va vb h1 h2 h3;assumption
 case a|b|c=>kernel_rfl
 case d|e=>rfl
theorem QU8:QkD Tryz.prog sF:=by
 unfold QkD
 rw[show sF "aM" =94 by kernel_rfl]
 intro a b ns va vb h1 h2
 refine FC.of' (rs:=[.t 6]) (H:=wMd QYi sMd) (lc:=Qkz sF) (n:=3) Tryz.func94 Tryz.mx ?a ?b ?c ?d ?e ?f
 case f=>have hw:=QYn (P:=Tryz.prog) (F:=sF) a b ns va vb h1 h2;assumption
 case a|b|c=>kernel_rfl
 case d|e=>rfl
theorem QU9:QkH Tryz.prog sF:=by
 unfold QkH
 intro n
 induction n using Nat.strongRecOn with
 |ind n ih=>
 unfold QkG
 rw[show sF "z" =48 by kernel_rfl]
 intro a b ns out va vb h1 h2
 refine FC.of' (rs:=[.t 8]) (H:=wMd QYk sMd) (lc:=QkB sF) (n:=4) Tryz.func48 Tryz.mx ?a ?b ?c ?d ?e ?f
 case f=>have hw:=QYp QU7 QU8 n ih a b ns out va vb h1 h2;assumption
 case a|b|c=>kernel_rfl
 case d|e=>rfl
theorem QVa:QkI Tryz.prog sF:=by
 unfold QkI
 rw[show sF "bB" =15 by kernel_rfl]
 intro a b
 refine fcQ [.t 4,.t 5] QkC 2 Tryz.func15 ?a ?b ?c ?d ?e ?f
 case f=>have hw:=QYq Qct QU9 a b;assumption
 case a|b|c=>kernel_rfl
 case d|e=>rfl
theorem QVb:QjW Tryz.prog sF:=by
 unfold QjW
 rw[show sF "aR" =95 by kernel_rfl]
 intro x hs
 refine fcQ [.t 8] QjK 4 Tryz.func95 ?a ?b ?c ?d ?e ?f
 case f=>have hw:=QXG QdO Qo8 x hs;assumption
 case a|b|c=>kernel_rfl
 case d|e=>rfl
theorem QdP:QbW Tryz.prog sF:=by
 unfold QbW
 rw[show sF "f" =181 by kernel_rfl]
 intro l n hl
 refine FC.of' (rs:=[.t 4]) (H:=wMd QXj sMd) (lc:=Qjq sF) (n:=2) Tryz.func181 Tryz.mx ?a ?b ?c ?d ?e ?f
 case f=>have hw:=QXn (P:=Tryz.prog) (F:=sF) l n hl;assumption
 case a|b|c=>kernel_rfl
 case d|e=>rfl
theorem QVc:QjY Tryz.prog sF:=by
 unfold QjY
 rw[show sF "av" =96 by kernel_rfl]
 intro im kn h1 h2
 refine FC.of' (rs:=[.t 4]) (H:=wMd QXC sMd) (lc:=QjO sF) (n:=2) Tryz.func96 Tryz.mx ?a ?b ?c ?d ?e ?f
 case f=>have hw:=QXM QdP im kn h1 h2;assumption
 case a|b|c=>kernel_rfl
 case d|e=>rfl
theorem Qpf:Qez Tryz.prog sF:=by
 unfold Qez
 rw[show sF "M" =99 by kernel_rfl]
 intro mn kn h1 h2
 refine FC.of' (rs:=[.t 4]) (H:=wMd QXA sMd) (lc:=QjL sF) (n:=2) Tryz.func99 Tryz.mx ?a ?b ?c ?d ?e ?f
 case f=>have hw:=QXI QdP mn kn h1 h2;assumption
 case a|b|c=>kernel_rfl
 case d|e=>rfl
theorem QVd:QjX Tryz.prog sF:=by
 unfold QjX
 rw[show sF "aS" =97 by kernel_rfl]
 intro x he
 refine FC.of' (rs:=[.t 8]) (H:=wMd QXB sMd) (lc:=QjM sF) (n:=4) Tryz.func97 Tryz.mx ?a ?b ?c ?d ?e ?f
 case f=>have hw:=QXK Qpf QdP x he;assumption
 case a|b|c=>kernel_rfl
 case d|e=>rfl
theorem QVe:QjZ Tryz.prog sF:=by
 unfold QjZ
 rw[show sF "ar" =98 by kernel_rfl]
 intro n l hn hl
 refine FC.of' (rs:=[.t 4]) (H:=wMd QXD sMd) (lc:=QjP sF) (n:=2) Tryz.func98 Tryz.mx ?a ?b ?c ?d ?e ?f
 case f=>have hw:=QXP QdP n l hn hl;assumption
 case a|b|c=>kernel_rfl
 case d|e=>rfl
theorem QVf:Qj9 Tryz.prog sF:=by
 unfold Qj9
 rw[show sF "bV" =49 by kernel_rfl]
 intro x hs
 refine fcQ [.c 8 true 2,.t 9] Qj5 4 Tryz.func49 ?a ?b ?c ?d ?e ?f
 case f=>have hw:=QXW QVb QVc QVd Qpf QVe x hs;assumption
 case a|b|c=>kernel_rfl
 case d|e=>rfl
theorem QVg:Qjb Tryz.prog sF:=by
 unfold Qjb
 rw[show sF "bX" =100 by kernel_rfl]
 intro s
 refine fcQ [.t 2] Qi8 1 Tryz.func100 ?a ?b ?c ?d ?e ?f
 case f=>have hw:=QW6 QdO s;assumption
 case a|b|c=>kernel_rfl
 case d|e=>rfl
theorem QVh:QhA Tryz.prog sF:=by
 unfold QhA
 rw[show sF "ac" =53 by kernel_rfl]
 intro l b hl hb
 refine fcQ [.t 4] Qhy 2 Tryz.func53 ?a ?b ?c ?d ?e ?f
 case f=>have hw:=QVS (P:=Tryz.prog) (F:=sF) l b hl hb;assumption
 case a|b|c=>kernel_rfl
 case d|e=>rfl
theorem Qpg:QdT Tryz.prog sF:=by
 unfold QdT
 rw[show sF "n" =19 by kernel_rfl]
 intro m n h1 h2 h3 h4
 refine fcQ [.c 4 true 2] Qhz 2 Tryz.func19 ?a ?b ?c ?d ?e ?f
 case f=>have hw:=QVT QVh m n h1 h2 h3 h4;assumption
 case a|b|c=>kernel_rfl
 case d|e=>rfl
theorem QVi:Qi1 Tryz.prog sF:=by
 unfold Qi1
 rw[show sF "am" =183 by kernel_rfl]
 intro f g hf hg
 refine fcQ [.t 4] QiS 2 Tryz.func183 ?a ?b ?c ?d ?e ?f
 case f=>have hw:=QW0 (P:=Tryz.prog) (F:=sF) f g hf hg;assumption
 case a|b|c=>kernel_rfl
 case d|e=>rfl
theorem QVj:QiL Tryz.prog sF:=by
 unfold QiL
 rw[show sF "aj" =182 by kernel_rfl]
 intro n l hn hl hp
 refine FC.of' (rs:=[.t 4,.t 5]) (H:=wMd QWO sMd) (lc:=QiD sF) (n:=2) Tryz.func182 Tryz.mx ?a ?b ?c ?d ?e ?f
 case f=>have hw:=QWX Qg0 Qpa n l hn hl hp;assumption
 case a|b|c=>kernel_rfl
 case d|e=>rfl
theorem QVk:Qi2 Tryz.prog sF:=by
 unfold Qi2
 rw[show sF "cc" =184 by kernel_rfl]
 intro g p r hv hc
 refine fcQ [.c 6 true 2,.c 7 true 2] QiV 3 Tryz.func184 ?a ?b ?c ?d ?e ?f
 case f=>have hw:=QW3 Qpb g p r hv hc;assumption
 case a|b|c=>kernel_rfl
 case d|e=>rfl
theorem QVl:Qi3 Tryz.prog sF:=by
 unfold Qi3
 rw[show sF "ca" =101 by kernel_rfl]
 intro a g f h hf hh
 refine fcQ [.c 6 true 2,.c 7 true 2] QiW 3 Tryz.func101 ?a ?b ?c ?d ?e ?f
 case f=>have hw:=QW4 QVi QVj QVk a g f h hf hh;assumption
 case a|b|c=>kernel_rfl
 case d|e=>rfl
theorem QVm:Qje Tryz.prog sF:=by
 unfold Qje
 rw[show sF "bx" =51 by kernel_rfl]
 intro s
 refine fcQ [.c 2 true 2,.c 3 true 2,.c 4 true 2,.t 5] Qi9 1 Tryz.func51 ?a ?b ?c ?d ?e ?f
 case f=>have hw:=QW9 QVg Qpe Qpg QVl s;assumption
 case a|b|c=>kernel_rfl
 case d|e=>rfl
theorem QVn:Qm0 Tryz.prog sF:=by
 unfold Qm0
 rw[show sF "bG" =17 by kernel_rfl]
 intro nm s g q hs hq
 refine fcQ [.c 6 true 2,.c 7 true 2,.t 8] QmY 3 Tryz.func17 ?a ?b ?c ?d ?e ?f
 case f=>have hw:=Q0l QVf QgY QdN QVm nm s g q hs hq;assumption
 case a|b|c=>kernel_rfl
 case d|e=>rfl
theorem QVo:Qm6 Tryz.prog sF:=by
 unfold Qm6
 rw[show sF "ap" =3 by kernel_rfl]
 intro x hx
 refine fcQ [.t 2] Qm5 1 Tryz.func3 ?a ?b ?c ?d ?e ?f
 case f=>have hw:=Q0y QUv QUJ Qo6 QgY QUM QUV QU5 Qo2 Qo5 Qpe QVa Qpd QVn Qo4 Qpg x hx;assumption
 case a|b|c=>kernel_rfl
 case d|e=>rfl
end Go.Proofs.YtgllpjliaepbdaaGreat
