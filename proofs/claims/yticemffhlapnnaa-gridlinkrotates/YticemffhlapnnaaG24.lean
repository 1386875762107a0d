import Derived.Test.YticemffhlapnnaaS
import Derived.Test.YticemffhlapnnaaG19
set_option linter.unusedVariables false
set_option linter.unusedSimpArgs false
namespace Go.Proofs.Yticemffhlapnnaa
open Ev Try
set_option maxRecDepth 100000
set_option maxHeartbeats 4000000
theorem mirror_Mirror_c1_ok (n:Nat) {w:World} {O0:List Nat} (hO: ∀k∈O0,k<w.heap.size) {a:Int} (b:I64 a) {r:Bool} (hb:F.mirror_Mirror_c1 n a=some r):
    Calls prog 56 #[iv a] w fun e w'=> ∃v,e=.returned v∧v=.bool r∧Cx (fun _=>False) O0 w w' []:=by
 unfold F.mirror_Mirror_c1 at hb
 have hC:=Cx.start hO
 clear hO
 refine calls_of_Wc func56 rfl (by rw [ntmps56]; exact nb rfl) fun KR hKR=>?_
 refine Wc.seq fun _ hK1=>rg<|lp (.bool false) (pu_assign rfl)<|ln (hK1 _ _ ?_)
 refine Wc.seq fun _ hK2=>rg<|lp (.bool true) (pu_assign rfl)<|ln (hK2 _ _ ?_)
 obtain rfl:=os hb
 refine Wc.ret (hKR _ _ ?_)
 refine ⟨_,res1 results56 (tV (.bool true) rfl),_,rfl,rfl,hC.sE []⟩

theorem mirror_exchange_c2_ok (n:Nat) {w:World} {O0:List Nat} (hO: ∀k∈O0,k<w.heap.size) {b:Int} (c:I64 b) {a:Nat} (hio:Tk O0 w [.box a 78 [.func (.func 56) #[] #[]]]) {r:Int} (hb:F.mirror_exchange_c2 n b=some r):
    Calls prog 81 #[iv b,pg a] w fun e w'=> ∃v,e=.returned v∧v=iv r∧I64 r∧Cx (fun k=>k∈blocks [.box a 78 [.func (.func 56) #[] #[]]]) O0 w w' [.box a 78 [.func (.func 56) #[] #[]]]:=by
 unfold F.mirror_exchange_c2 at hb
 have hC:=Cx.startTk hO hio
 have hsub:=hio.2.2
 clear hO
 clear hio hsub
 obtain ⟨I,hI,hC⟩: ∃I:Nat→Prop,I=(fun k=>k∈blocks [.box a 78 [.func (.func 56) #[] #[]]])∧Cx I O0 w w ([.box a 78 [.func (.func 56) #[] #[]]]):=⟨_,rfl,hC⟩
 refine calls_of_Wc func81 rfl (by rw [ntmps81]; exact nb rfl) fun KR hKR=>?_
 refine Wc.seq fun _ hK2=>rg<|lp (iv 0) (pu_assign rfl)<|ln (hK2 _ _ ?_)
 refine Wc.seq fun _ hK3=>?_
 refine Wc.seq fun _ hK4=>rg<|lv (.func (.func 56) #[] #[]) (ld_one isAgg78 rfl ((hC.bx (i:=0) rfl).cell (j:=0) rfl))<|lp (iv b) (pu_move rfl) ?_
 obtain ⟨y5,h6,hb⟩:=bd hb
 refine lex.cl (⟨_,_,op_callv (vs:=[iv b]) (ca:=#[]) call56 rfl rfl rfl,mirror_Mirror_c1_ok n hC.lt c h6⟩) ?_
 rintro _ w7 ⟨rfl,hK⟩
 replace hC:=hC.merge hK
 clear hK
 refine ln (hK4 _ _ ?_)
 refine Wc.cond (t:=y5) (rfl) (fun hq8=>?_) (fun hq8=>?_)
 replace hb:=tt hq8 hb
 refine Wc.seq fun _ hK9=>rg<|lp (iv (-1)) (pu_assign rfl)<|ln (hK9 _ _ ?_)
 obtain rfl:=os hb
 subst hI
 refine Wc.ret (hKR _ _ ?_)
 refine ⟨_,res1 results81 (tV (iv (-1)) rfl),_,rfl,rfl,(show I64 (-1) from by unfold I64; omega),hC.sE [0]⟩
 replace hb:=tf hq8 hb
 refine Wc.skip (hK3 _ _ ?_)
 refine Wc.seq fun _ hK10=>rg<|lp (iv 1) (pu_assign rfl)<|ln (hK10 _ _ ?_)
 obtain rfl:=os hb
 subst hI
 refine Wc.ret (hKR _ _ ?_)
 refine ⟨_,res1 results81 (tV (iv 1) rfl),_,rfl,rfl,(show I64 1 from by unfold I64; omega),hC.sE [0]⟩

theorem mirror_exchange_c1_ok (n:Nat) {w:World} {O0:List Nat} (hO: ∀k∈O0,k<w.heap.size) {x:Int} (B:I64 x) {A:Int} (K:I64 A) {u:Nat} {o:Nat} {c:Option Addr} {p d:Nat} {h:List Int} (y:Rep O0 w (.sl si) [.slice c p d] h) {f:Option Addr} {s g:Nat} {m:List Int} (z:Rep O0 w (.sl si) [.slice f s g] m) {l:Int} (J:I64 l) (hio:Tk O0 w [.box u 78 [.func (.func 56) #[] #[]],.box o 28 [.slice c p d,.slice f s g,iv l]]) {r:Int} (hb:F.mirror_exchange_c1 n x A h m l=some r):
    Calls prog 80 #[iv x,iv A,pg u,pg o] w fun e w'=> ∃v,e=.returned v∧v=iv r∧I64 r∧Cx (fun k=>k∈blocks [.box u 78 [.func (.func 56) #[] #[]],.box o 28 [.slice c p d,.slice f s g,iv l]]) O0 w w' [.box u 78 [.func (.func 56) #[] #[]],.box o 28 [.slice c p d,.slice f s g,iv l]]:=by
 unfold F.mirror_exchange_c1 at hb
 have hC:=Cx.startTk hO hio
 have hsub:=hio.2.2
 replace hC:=hC.argTk (by first | exact hsub | exact fun k hk=>hsub k (by simpa [blocks,Fact.blk] using hk)) y
 replace hC:=hC.argTk (by first | exact hsub | exact fun k hk=>hsub k (by simpa [blocks,Fact.blk] using hk)) z
 clear hO
 obtain ⟨rfl,C,D⟩:=y.sl_len
 obtain ⟨rfl,G,H⟩:=z.sl_len
 clear hio hsub
 obtain ⟨I,hI,hC⟩: ∃I:Nat→Prop,I=(fun k=>k∈blocks [.box u 78 [.func (.func 56) #[] #[]],.box o 28 [.slice c h.length d,.slice f m.length g,iv l]])∧Cx I O0 w w ([.ro (.sl si) [.slice f m.length g] m,.ro (.sl si) [.slice c h.length d] h,.box u 78 [.func (.func 56) #[] #[]],.box o 28 [.slice c h.length d,.slice f m.length g,iv l]]):=⟨_,rfl,hC⟩
 refine calls_of_Wc func80 rfl (by rw [ntmps80]; exact nb rfl) fun KR hKR=>?_
 refine Wc.seq fun _ hK5=>rg<|lp (iv 0) (pu_assign rfl)<|ln (hK5 _ _ ?_)
 refine Wc.seq fun _ hK6=>?_
 refine Wc.block<|Wc.seq fun _ hK7=>rg<|lv (.func (.func 56) #[] #[]) (ld_one isAgg78 rfl ((hC.bx (i:=2) rfl).cell (j:=0) rfl))<|lp (iv x) (pu_move rfl) ?_
 obtain ⟨y8,h9,hb⟩:=bd hb
 refine lex.cl (⟨_,_,op_callv (vs:=[iv x]) (ca:=#[]) call56 rfl rfl rfl,mirror_Mirror_c1_ok n hC.lt B h9⟩) ?_
 rintro _ w10 ⟨rfl,hK⟩
 replace hC:=hC.merge hK
 clear hK
 refine lp (.bool (!y8)) (pu_not (q:=y8) rfl)<|lp (.bool (!y8)) (pu_assign rfl)<|ln (hK7 _ _ ?_)
 refine Wc.cond (t:=(!y8)) (rfl) (fun hq11=>?_) (fun hq11=>?_)
 replace hb:=tt hq11 hb
 refine Wc.seq fun _ hK12=>rg<|lp (iv 0) (pu_assign rfl)<|ln (hK12 _ _ ?_)
 obtain rfl:=os hb
 subst hI
 refine Wc.ret (hKR _ _ ?_)
 refine ⟨_,res1 results80 (tV (iv 0) rfl),_,rfl,rfl,(show I64 0 from by unfold I64; omega),hC.sE [2,3]⟩
 replace hb:=tf hq11 hb
 refine Wc.seq fun _ hK13=>rg<|lp (.pointer (some ((⟨o,0,none⟩:Addr).add 0))) (pu_field (sz:=1) underlying28 rfl sizeOf22 (by decide) rfl rfl)<|lv (.slice c h.length d) (ld_fld (hC.bx (i:=3) rfl) isAgg22 rfl rfl)<|lp (iv x) (pu_move rfl) ?_
 obtain ⟨x14,h15,hb⟩:=bd hb
 obtain ⟨ad16,cs17,hA,hc18,hr19⟩:=hC.elr (i:=1) rfl (get_some h15).2
 subst hA
 refine lp (.pointer (some (ad16.add (x.toNat*1)))) (pu_index (a:=x) underlying22 sizeOf3 rfl rfl (get_some h15).1) ?_
 obtain ⟨rfl,hr19'⟩:=hr19
 refine lv (iv x14) (ld_one isAgg3 rfl (hc18 0 _ rfl))<|lp (.bool (decide (x14=1))) (pu_eql (k:=.i64) (a:=x14) (b:=1) rfl rfl)<|lp (.bool (decide (x14=1))) (pu_assign rfl)<|ln (hK13 _ _ ?_)
 refine Wc.cond (t:=(decide (x14=1))) (rfl) (fun hq20=>?_) (fun hq20=>?_)
 replace hb:=tt hq20 hb
 refine Wc.seq fun _ hK21=>rg<|lp (iv (-3)) (pu_assign rfl)<|ln (hK21 _ _ ?_)
 obtain rfl:=os hb
 subst hI
 refine Wc.ret (hKR _ _ ?_)
 refine ⟨_,res1 results80 (tV (iv (-3)) rfl),_,rfl,rfl,(show I64 (-3) from by unfold I64; omega),hC.sE [2,3]⟩
 replace hb:=tf hq20 hb
 refine Wc.skip (hK6 _ _ ?_)
 refine Wc.seq fun _ hK22=>rg<|lp (iv (-1)) (pu_assign rfl)<|ln (hK22 _ _ ?_)
 obtain rfl:=os hb
 subst hI
 refine Wc.ret (hKR _ _ ?_)
 refine ⟨_,res1 results80 (tV (iv (-1)) rfl),_,rfl,rfl,(show I64 (-1) from by unfold I64; omega),hC.sE [2,3]⟩

theorem mirror_move_c1_ok (n:Nat) {w:World} {O0:List Nat} (hO: ∀k∈O0,k<w.heap.size) {t:Int} (A:I64 t) {u:Nat} {c:Nat} {d:Nat} {f:Option Addr} {q g:Nat} {m:List Int} (x:Rep O0 w (.sl si) [.slice f q g] m) {h:Option Addr} {s l:Nat} {o:List Int} (y:Rep O0 w (.sl si) [.slice h s l] o) {p:Int} (z:I64 p) (hio:Tk O0 w [.box u 80 [.func (.func 80) #[] #[pg c,pg d]],.box c 78 [.func (.func 56) #[] #[]],.box d 28 [.slice f q g,.slice h s l,iv p]]) {r:Int} (hb:F.mirror_move_c1 n t m o p=some r):
    Calls prog 83 #[iv t,pg u] w fun e w'=> ∃v,e=.returned v∧v=iv r∧I64 r∧Cx (fun k=>k∈blocks [.box u 80 [.func (.func 80) #[] #[pg c,pg d]],.box c 78 [.func (.func 56) #[] #[]],.box d 28 [.slice f q g,.slice h s l,iv p]]) O0 w w' [.box u 80 [.func (.func 80) #[] #[pg c,pg d]],.box c 78 [.func (.func 56) #[] #[]],.box d 28 [.slice f q g,.slice h s l,iv p]]:=by
 unfold F.mirror_move_c1 at hb
 have hC:=Cx.startTk hO hio
 have hsub:=hio.2.2
 replace hC:=hC.argTk (by first | exact hsub | exact fun k hk=>hsub k (by simpa [blocks,Fact.blk] using hk)) x
 replace hC:=hC.argTk (by first | exact hsub | exact fun k hk=>hsub k (by simpa [blocks,Fact.blk] using hk)) y
 clear hO
 obtain ⟨rfl,B,C⟩:=x.sl_len
 obtain ⟨rfl,D,G⟩:=y.sl_len
 clear hio hsub
 obtain ⟨I,hI,hC⟩: ∃I:Nat→Prop,I=(fun k=>k∈blocks [.box u 80 [.func (.func 80) #[] #[pg c,pg d]],.box c 78 [.func (.func 56) #[] #[]],.box d 28 [.slice f m.length g,.slice h o.length l,iv p]])∧Cx I O0 w w ([.ro (.sl si) [.slice h o.length l] o,.ro (.sl si) [.slice f m.length g] m,.box u 80 [.func (.func 80) #[] #[pg c,pg d]],.box c 78 [.func (.func 56) #[] #[]],.box d 28 [.slice f m.length g,.slice h o.length l,iv p]]):=⟨_,rfl,hC⟩
 refine calls_of_Wc func83 rfl (by rw [ntmps83]; exact nb rfl) fun KR hKR=>?_
 refine Wc.seq fun _ hK6=>rg<|lp (iv 0) (pu_assign rfl)<|ln (hK6 _ _ ?_)
 refine Wc.seq fun _ hK7=>rg<|lp (iv t) (pu_move rfl)<|lv (.func (.func 80) #[] #[pg c,pg d]) (ld_one isAgg80 rfl ((hC.bx (i:=2) rfl).cell (j:=0) rfl))<|lp (iv t) (pu_move rfl) ?_
 obtain ⟨u8,h9,hb⟩:=bd hb
 obtain ⟨z10,h11,hb⟩:=bd hb
 refine lp (iv z10) (pu_quoc (a:=t) (b:=4) rfl rfl h9 h11)<|lp (iv t) (pu_move rfl) ?_
 obtain ⟨u12,h13,hb⟩:=bd hb
 refine lp (iv (Int.tmod t 4)) (pu_remc (a:=t) (b:=4) rfl rfl h13) ?_
 replace hC:Cx I O0 w w ([.box c 78 [.func (.func 56) #[] #[]],.box d 28 [.slice f m.length g,.slice h o.length l,iv p]]++[.ro (.sl si) [.slice h o.length l] o,.ro (.sl si) [.slice f m.length g] m,.box u 80 [.func (.func 80) #[] #[pg c,pg d]]]):=hC.sE [3,4,0,1,2]
 obtain ⟨y14,h15,hb⟩:=bd hb
 refine lex.cl (⟨_,_,op_callv (vs:=[iv z10,iv (Int.tmod t 4),pg c,pg d]) (ca:=#[pg c,pg d]) call80 rfl rfl rfl,mirror_exchange_c1_ok n hC.lt (chk_rng h11) (I64.rem A) (hC.rd (i:=3) rfl) (hC.rd (i:=2) rfl) z hC.give h15⟩) ?_
 rintro _ w17 ⟨rfl,hr16,hK⟩
 replace hC:=hC.back hK
 clear hK
 obtain ⟨y18,h19,hb⟩:=bd hb
 refine lex.cl (⟨_,_,op_call (vs:=[iv t,iv y14]) call75 rfl rfl rfl,diagram_Turn_ok n hC.lt A hr16 h19⟩) ?_
 rintro _ w21 ⟨rfl,hr20,hK⟩
 replace hC:=hC.merge hK
 clear hK
 refine lp (iv y18) (pu_assign rfl)<|ln (hK7 _ _ ?_)
 obtain rfl:=os hb
 subst hI
 refine Wc.ret (hKR _ _ ?_)
 refine ⟨_,res1 results83 (tV (iv y18) rfl),_,rfl,rfl,hr20,hC.sE [4,0,1]⟩

theorem mirror_move_mirror_exchange_c1_mirror_exchange_c2_ok (n:Nat) {w:World} {O0:List Nat} (hO: ∀k∈O0,k<w.heap.size) {T:Option Addr} {a5 S:Nat} {y:List Int} (a6:Rep O0 w (.sl si) [.slice T a5 S] y) {Q:Option Addr} {a7 P:Nat} {o:List Int} (a8:Rep O0 w (.sl si) [.slice Q a7 P] o) {M:Int} (b1:I64 M) {c:Nat} {d:Nat} {p:Option Addr} {V q:Nat} {j:List Int} (a2:Rep O0 w (.sl si) [.slice p V q] j) {u:Option Addr} {X x:Nat} {l:List Int} (a3:Rep O0 w (.sl si) [.slice u X x] l) {z:Int} (a4:I64 z) (hio:Tk O0 w [.box c 78 [.func (.func 56) #[] #[]],.box d 28 [.slice p V q,.slice u X x,iv z]]) {r:(List Int)×(List Int)×Int} (hb:F.mirror_move_mirror_exchange_c1_mirror_exchange_c2 n y o M j l z=some r):
    Calls prog 60 #[.agg #[.slice T a5 S,.slice Q a7 P,iv M],.func (.func 80) #[] #[pg c,pg d],.func (.func 81) #[] #[pg c]] w fun e w'=> ∃v,e=.returned v∧∃(A0:Option Addr) (m0 c0:Nat) (A1:Option Addr) (m1 c1:Nat),v=.agg #[.slice A0 m0 c0,.slice A1 m1 c1,iv r.2.2]∧I64 r.2.2∧Cx (fun k=>k∈blocks [.box c 78 [.func (.func 56) #[] #[]],.box d 28 [.slice p V q,.slice u X x,iv z]]) O0 w w' [.own 3 si (.slice A0 m0 c0) r.1,.own 3 si (.slice A1 m1 c1) r.2.1,.box c 78 [.func (.func 56) #[] #[]],.box d 28 [.slice p V q,.slice u X x,iv z]]:=by
 unfold F.mirror_move_mirror_exchange_c1_mirror_exchange_c2 at hb
 have hC:=Cx.startTk hO hio
 have hsub:=hio.2.2
 replace hC:=hC.argTk (by first | exact hsub | exact fun k hk=>hsub k (by simpa [blocks,Fact.blk] using hk)) a6
 replace hC:=hC.argTk (by first | exact hsub | exact fun k hk=>hsub k (by simpa [blocks,Fact.blk] using hk)) a8
 replace hC:=hC.argTk (by first | exact hsub | exact fun k hk=>hsub k (by simpa [blocks,Fact.blk] using hk)) a2
 replace hC:=hC.argTk (by first | exact hsub | exact fun k hk=>hsub k (by simpa [blocks,Fact.blk] using hk)) a3
 clear hO
 obtain ⟨rfl,c2,c3⟩:=a6.sl_len
 obtain ⟨rfl,c4,c5⟩:=a8.sl_len
 obtain ⟨rfl,b2,b3⟩:=a2.sl_len
 obtain ⟨rfl,b4,b5⟩:=a3.sl_len
 clear hio hsub
 obtain ⟨I,hI,hC⟩: ∃I:Nat→Prop,I=(fun k=>k∈blocks [.box c 78 [.func (.func 56) #[] #[]],.box d 28 [.slice p j.length q,.slice u l.length x,iv z]])∧Cx I O0 w w ([.ro (.sl si) [.slice u l.length x] l,.ro (.sl si) [.slice p j.length q] j,.ro (.sl si) [.slice Q o.length P] o,.ro (.sl si) [.slice T y.length S] y,.box c 78 [.func (.func 56) #[] #[]],.box d 28 [.slice p j.length q,.slice u l.length x,iv z]]):=⟨_,rfl,hC⟩
 refine calls_of_Wc func60 rfl (by rw [ntmps60]; exact nb rfl) fun KR hKR=>?_
 refine Wc.seq fun _ hK7=>rg<|lex.op (hC.box (cs:=[.slice T y.length S,.slice Q o.length P,iv M]) rfl rfl) ?_
 rintro _ w9 ⟨g8,rfl,hC,hF,-⟩
 refine lex.op (hC.box (cs:=[.func (.func 80) #[] #[pg c,pg d]]) rfl rfl) ?_
 rintro _ w12 ⟨g11,rfl,hC,hF,-⟩
 refine lex.op (hC.alloc (cs:=[.slice none 0 0,.slice none 0 0,iv 0]) zeroValue28 rfl) ?_
 rintro _ w15 ⟨g14,rfl,hC,hF,-⟩
 refine ln (hK7 _ _ ?_)
 refine Wc.seq fun _ hK17=>rg<|lp (.func (.func 83) #[] #[pg g11]) (pu_funcc rfl)<|lp (.func (.func 83) #[] #[pg g11]) (pu_assign rfl)<|ln (hK17 _ _ ?_)
 refine Wc.seqJ (fun E wv=> ∃(gP8:Nat) (L:List Int) (D:List Int) (G:Option Addr) (Y J:Nat) (B:Option Addr) (Z C:Nat),E 2=.func (.func 81) #[] #[pg c]∧E 3=pg g8∧E 6=pg g14∧E 7=.func (.func 83) #[] #[pg g11]∧E 8=pg gP8∧Cx I O0 w wv [.box c 78 [.func (.func 56) #[] #[]],.box g8 28 [.slice T y.length S,.slice Q o.length P,iv M],.ro (.sl si) [.slice T y.length S] y,.ro (.sl si) [.slice Q o.length P] o,.box g14 28 [.slice none 0 0,.slice none 0 0,iv 0],.box g11 80 [.func (.func 80) #[] #[pg c,pg d]],.box d 28 [.slice p j.length q,.slice u l.length x,iv z],.ro (.sl si) [.slice p j.length q] j,.ro (.sl si) [.slice u l.length x] l,.box gP8 28 [.slice G Y J,.slice B Z C,iv M],.own 3 si (.slice G Y J) L,.own 3 si (.slice B Z C) D]∧F.mirror_move_mirror_exchange_c1_mirror_exchange_c2_j0 n y o M j l z L D=some r) (fun _ hK18=>?_) ?_
 refine Wc.regionPlan [15,19,23] (frm [15,19,23] ([]:List Fact) ([]:List Fact)) (chainP [0,1,2,4,5,6,8,9] (.alt (chainP [3] (.alt (chainP [7] (chainP [10,11,12] .done)) (chainP [11] (chainP [7,10,12] .done)))) (.alt (chainP [7] (.alt (chainP [3] (chainP [10,11,12] .done)) (chainP [11] (chainP [3,10,12] .done)))) (chainP [11] (.alt (chainP [3] (chainP [7,10,12] .done)) (chainP [7] (chainP [3,10,12] .done))))))) (fun _=>rfl) mixed (by decide+kernel) (by decide+kernel) fun w20 hw19=>?_
 replace hC:=hC.step (Fr.of_drew hw19)
 have hM:=Fr.refl (fun k=>k∈blocks ([]:List Fact)) w20
 clear hw19
 have hS:=hC
 have hD:Fr (fun k=>k∈blocks (([]:List Fact)++([]:List Fact))) w20 w20:=hM.wide
 refine mixPE_chain ?_
 refine mp (.pointer (some ((⟨g8,0,none⟩:Addr).add 0))) (pu_field (sz:=1) underlying28 rfl sizeOf22 (by decide) rfl rfl)<|mixE.steady hD (v:=.slice T y.length S) (fun _ hF=>ld_fld (hS.bx2 (i:=2) rfl [] (by decide) hF) isAgg22 rfl rfl)<|mp (iv (y.length:Int)) (pu_len (A:=T) (n:=y.length) (m:=S) underlying22 rfl)<|mp (.pointer (some ((⟨g8,0,none⟩:Addr).add 1))) (pu_field (sz:=1) underlying28 rfl sizeOf22 (by decide) rfl rfl)<|mixE.steady hD (v:=.slice Q o.length P) (fun _ hF=>ld_fld (hS.bx2 (i:=2) rfl [] (by decide) hF) isAgg22 rfl rfl)<|mp (iv (o.length:Int)) (pu_len (A:=Q) (n:=o.length) (m:=P) underlying22 rfl)<|mp (.pointer (some ((⟨g8,0,none⟩:Addr).add 2))) (pu_field (sz:=1) underlying28 rfl sizeOf3 (by decide) rfl rfl)<|mixE.steady hD (v:=iv M) (fun _ hF=>ld_fld (hS.bx2 (i:=2) rfl [] (by decide) hF) isAgg3 rfl rfl)<|mixE.nil ?_
 refine mixPE_alt ?_ ?_
 refine mixPE_chain ?_
 obtain ⟨u21,h22,hb⟩:=bd hb
 refine mixE.op hM (hC.make (s:=si) (n:=(y.length:Int)) underlying22 type3 rfl rfl rfl rfl rfl (pos_some h22).1 (pos_some h22).2 (by decide)) ?_
 rintro _ w27 ⟨A23,c24,rfl,hl25,hc26,hC,hF,hN⟩
 have hBf28:=Beside.new hM hN
 have hUf28:=Beside.new (hM.wide (H:=([]:List Fact))) hN
 replace hM:=hM.none hF
 replace hD:=hM.wide (H:=([]:List Fact))
 refine ⟨hM,?_⟩
 clear hF hN
 refine mixE.nil ?_
 refine mixPE_alt ?_ ?_
 refine mixPE_chain ?_
 obtain ⟨u29,h30,hb⟩:=bd hb
 refine mixE.op hM (hC.make (s:=si) (n:=(o.length:Int)) underlying22 type3 rfl rfl rfl rfl rfl (pos_some h30).1 (pos_some h30).2 (by decide)) ?_
 rintro _ w35 ⟨A31,c32,rfl,hl33,hc34,hC,hF,hN⟩
 have hBf36:=Beside.new hM hN
 have hUf36:=Beside.new (hM.wide (H:=([]:List Fact))) hN
 replace hM:=hM.none hF
 replace hD:=hM.wide (H:=([]:List Fact))
 refine ⟨hM,?_⟩
 clear hF hN
 refine mixE.nil ?_
 refine mixPE_chain ?_
 refine mp (.agg #[.slice A23 (((rZ y.length)).length) c24,.slice A31 (((rZ o.length)).length) c32,iv M]) (pu_builds (places:=[(0,1),(1,1),(2,1)]) (pv:=[(0,.slice A23 (((rZ y.length)).length) c24),(1,.slice A31 (((rZ o.length)).length) c32),(2,iv M)]) type28 underlying28 rfl (mp_cons type22 (mp_cons type22 (mp_cons type3 mp_nil rfl rfl) rfl rfl) rfl rfl) rfl (by simp [Instr.fill,Value.cells]))<|mixE.op hM (hC.alloc (cs:=[.slice none 0 0,.slice none 0 0,iv 0]) zeroValue28 rfl) ?_
 rintro _ w38 ⟨g37,rfl,hC,hF,hG⟩
 have hUf39:g37<w20.heap.size→g37∈blocks (([]:List Fact)++([]:List Fact)):=fun h=>absurd (Nat.lt_of_lt_of_le h (Nat.le_trans hM.size hG)) (Nat.lt_irrefl _)
 have hVf39:g37<w20.heap.size→g37∈blocks ([]:List Fact):=fun h=>absurd (Nat.lt_of_lt_of_le h (Nat.le_trans hM.size hG)) (Nat.lt_irrefl _)
 clear hG
 replace hM:=hM.none hF
 replace hD:=hM.wide (H:=([]:List Fact))
 refine ⟨hM,?_⟩
 refine mixE.sk hD (hC.seta (i:=0) (ds:=[.slice A23 (((rZ y.length)).length) c24,.slice A31 (((rZ o.length)).length) c32,iv M]) rfl type28 rfl rfl rfl rfl rfl) ?_
 rintro w40 ⟨hC,hF⟩
 replace hD:=hD.besideG hUf39 hF
 replace hM:=hM.besideG hVf39 hF
 clear hF
 refine ⟨hD,?_⟩
 refine mixE.nil ?_
 clear hS hM
 clear hD
 exact hK18 _ _ ⟨g37,(rZ y.length),(rZ o.length),A23,((rZ y.length)).length,c24,A31,((rZ o.length)).length,c32,rfl,rfl,rfl,rfl,rfl,hC.sE [10,5,9,8,3,4,11,7,6,0,2,1],hb⟩
 refine mixPE_chain ?_
 refine mixE.op hM (hC.alloc (cs:=[.slice none 0 0,.slice none 0 0,iv 0]) zeroValue28 rfl) ?_
 rintro _ w42 ⟨g41,rfl,hC,hF,hG⟩
 have hUf43:g41<w20.heap.size→g41∈blocks (([]:List Fact)++([]:List Fact)):=fun h=>absurd (Nat.lt_of_lt_of_le h (Nat.le_trans hM.size hG)) (Nat.lt_irrefl _)
 have hVf43:g41<w20.heap.size→g41∈blocks ([]:List Fact):=fun h=>absurd (Nat.lt_of_lt_of_le h (Nat.le_trans hM.size hG)) (Nat.lt_irrefl _)
 clear hG
 replace hM:=hM.none hF
 replace hD:=hM.wide (H:=([]:List Fact))
 refine ⟨hM,?_⟩
 refine mixE.nil ?_
 refine mixPE_chain ?_
 obtain ⟨u29,h45,hb⟩:=bd hb
 refine mixE.op hM (hC.make (s:=si) (n:=(o.length:Int)) underlying22 type3 rfl rfl rfl rfl rfl (pos_some h45).1 (pos_some h45).2 (by decide)) ?_
 rintro _ w50 ⟨A46,c47,rfl,hl48,hc49,hC,hF,hN⟩
 have hBf51:=Beside.new hM hN
 have hUf51:=Beside.new (hM.wide (H:=([]:List Fact))) hN
 replace hM:=hM.none hF
 replace hD:=hM.wide (H:=([]:List Fact))
 refine ⟨hM,?_⟩
 clear hF hN
 refine mp (.agg #[.slice A23 (((rZ y.length)).length) c24,.slice A46 (((rZ o.length)).length) c47,iv M]) (pu_builds (places:=[(0,1),(1,1),(2,1)]) (pv:=[(0,.slice A23 (((rZ y.length)).length) c24),(1,.slice A46 (((rZ o.length)).length) c47),(2,iv M)]) type28 underlying28 rfl (mp_cons type22 (mp_cons type22 (mp_cons type3 mp_nil rfl rfl) rfl rfl) rfl rfl) rfl (by simp [Instr.fill,Value.cells]))<|mixE.sk hD (hC.seta (i:=1) (ds:=[.slice A23 (((rZ y.length)).length) c24,.slice A46 (((rZ o.length)).length) c47,iv M]) rfl type28 rfl rfl rfl rfl rfl) ?_
 rintro w52 ⟨hC,hF⟩
 replace hD:=hD.besideG hUf43 hF
 replace hM:=hM.besideG hVf43 hF
 clear hF
 refine ⟨hD,?_⟩
 refine mixE.nil ?_
 clear hS hM
 clear hD
 exact hK18 _ _ ⟨g41,(rZ y.length),(rZ o.length),A23,((rZ y.length)).length,c24,A46,((rZ o.length)).length,c47,rfl,rfl,rfl,rfl,rfl,hC.sE [10,5,9,8,3,4,11,7,6,1,2,0],hb⟩
 replace hb:=(gcomm0 _ _ _).symm.trans hb
 refine mixPE_alt ?_ ?_
 refine mixPE_chain ?_
 obtain ⟨u29,h54,hb⟩:=bd hb
 refine mixE.op hM (hC.make (s:=si) (n:=(o.length:Int)) underlying22 type3 rfl rfl rfl rfl rfl (pos_some h54).1 (pos_some h54).2 (by decide)) ?_
 rintro _ w59 ⟨A55,c56,rfl,hl57,hc58,hC,hF,hN⟩
 have hBf60:=Beside.new hM hN
 have hUf60:=Beside.new (hM.wide (H:=([]:List Fact))) hN
 replace hM:=hM.none hF
 replace hD:=hM.wide (H:=([]:List Fact))
 refine ⟨hM,?_⟩
 clear hF hN
 refine mixE.nil ?_
 refine mixPE_alt ?_ ?_
 refine mixPE_chain ?_
 obtain ⟨u21,h62,hb⟩:=bd hb
 refine mixE.op hM (hC.make (s:=si) (n:=(y.length:Int)) underlying22 type3 rfl rfl rfl rfl rfl (pos_some h62).1 (pos_some h62).2 (by decide)) ?_
 rintro _ w67 ⟨A63,c64,rfl,hl65,hc66,hC,hF,hN⟩
 have hBf68:=Beside.new hM hN
 have hUf68:=Beside.new (hM.wide (H:=([]:List Fact))) hN
 replace hM:=hM.none hF
 replace hD:=hM.wide (H:=([]:List Fact))
 refine ⟨hM,?_⟩
 clear hF hN
 refine mixE.nil ?_
 refine mixPE_chain ?_
 refine mp (.agg #[.slice A63 (((rZ y.length)).length) c64,.slice A55 (((rZ o.length)).length) c56,iv M]) (pu_builds (places:=[(0,1),(1,1),(2,1)]) (pv:=[(0,.slice A63 (((rZ y.length)).length) c64),(1,.slice A55 (((rZ o.length)).length) c56),(2,iv M)]) type28 underlying28 rfl (mp_cons type22 (mp_cons type22 (mp_cons type3 mp_nil rfl rfl) rfl rfl) rfl rfl) rfl (by simp [Instr.fill,Value.cells]))<|mixE.op hM (hC.alloc (cs:=[.slice none 0 0,.slice none 0 0,iv 0]) zeroValue28 rfl) ?_
 rintro _ w70 ⟨g69,rfl,hC,hF,hG⟩
 have hUf71:g69<w20.heap.size→g69∈blocks (([]:List Fact)++([]:List Fact)):=fun h=>absurd (Nat.lt_of_lt_of_le h (Nat.le_trans hM.size hG)) (Nat.lt_irrefl _)
 have hVf71:g69<w20.heap.size→g69∈blocks ([]:List Fact):=fun h=>absurd (Nat.lt_of_lt_of_le h (Nat.le_trans hM.size hG)) (Nat.lt_irrefl _)
 clear hG
 replace hM:=hM.none hF
 replace hD:=hM.wide (H:=([]:List Fact))
 refine ⟨hM,?_⟩
 refine mixE.sk hD (hC.seta (i:=0) (ds:=[.slice A63 (((rZ y.length)).length) c64,.slice A55 (((rZ o.length)).length) c56,iv M]) rfl type28 rfl rfl rfl rfl rfl) ?_
 rintro w72 ⟨hC,hF⟩
 replace hD:=hD.besideG hUf71 hF
 replace hM:=hM.besideG hVf71 hF
 clear hF
 refine ⟨hD,?_⟩
 refine mixE.nil ?_
 clear hS hM
 clear hD
 exact hK18 _ _ ⟨g69,(rZ y.length),(rZ o.length),A63,((rZ y.length)).length,c64,A55,((rZ o.length)).length,c56,rfl,rfl,rfl,rfl,rfl,hC.sE [10,5,9,8,3,4,11,7,6,0,1,2],hb⟩
 refine mixPE_chain ?_
 refine mixE.op hM (hC.alloc (cs:=[.slice none 0 0,.slice none 0 0,iv 0]) zeroValue28 rfl) ?_
 rintro _ w74 ⟨g73,rfl,hC,hF,hG⟩
 have hUf75:g73<w20.heap.size→g73∈blocks (([]:List Fact)++([]:List Fact)):=fun h=>absurd (Nat.lt_of_lt_of_le h (Nat.le_trans hM.size hG)) (Nat.lt_irrefl _)
 have hVf75:g73<w20.heap.size→g73∈blocks ([]:List Fact):=fun h=>absurd (Nat.lt_of_lt_of_le h (Nat.le_trans hM.size hG)) (Nat.lt_irrefl _)
 clear hG
 replace hM:=hM.none hF
 replace hD:=hM.wide (H:=([]:List Fact))
 refine ⟨hM,?_⟩
 refine mixE.nil ?_
 refine mixPE_chain ?_
 obtain ⟨u21,h77,hb⟩:=bd hb
 refine mixE.op hM (hC.make (s:=si) (n:=(y.length:Int)) underlying22 type3 rfl rfl rfl rfl rfl (pos_some h77).1 (pos_some h77).2 (by decide)) ?_
 rintro _ w82 ⟨A78,c79,rfl,hl80,hc81,hC,hF,hN⟩
 have hBf83:=Beside.new hM hN
 have hUf83:=Beside.new (hM.wide (H:=([]:List Fact))) hN
 replace hM:=hM.none hF
 replace hD:=hM.wide (H:=([]:List Fact))
 refine ⟨hM,?_⟩
 clear hF hN
 refine mp (.agg #[.slice A78 (((rZ y.length)).length) c79,.slice A55 (((rZ o.length)).length) c56,iv M]) (pu_builds (places:=[(0,1),(1,1),(2,1)]) (pv:=[(0,.slice A78 (((rZ y.length)).length) c79),(1,.slice A55 (((rZ o.length)).length) c56),(2,iv M)]) type28 underlying28 rfl (mp_cons type22 (mp_cons type22 (mp_cons type3 mp_nil rfl rfl) rfl rfl) rfl rfl) rfl (by simp [Instr.fill,Value.cells]))<|mixE.sk hD (hC.seta (i:=1) (ds:=[.slice A78 (((rZ y.length)).length) c79,.slice A55 (((rZ o.length)).length) c56,iv M]) rfl type28 rfl rfl rfl rfl rfl) ?_
 rintro w84 ⟨hC,hF⟩
 replace hD:=hD.besideG hUf75 hF
 replace hM:=hM.besideG hVf75 hF
 clear hF
 refine ⟨hD,?_⟩
 refine mixE.nil ?_
 clear hS hM
 clear hD
 exact hK18 _ _ ⟨g73,(rZ y.length),(rZ o.length),A78,((rZ y.length)).length,c79,A55,((rZ o.length)).length,c56,rfl,rfl,rfl,rfl,rfl,hC.sE [10,5,9,8,3,4,11,7,6,1,0,2],hb⟩
 replace hb:=(gcomm0 _ _ _).symm.trans hb
 refine mixPE_chain ?_
 refine mixE.op hM (hC.alloc (cs:=[.slice none 0 0,.slice none 0 0,iv 0]) zeroValue28 rfl) ?_
 rintro _ w86 ⟨g85,rfl,hC,hF,hG⟩
 have hUf87:g85<w20.heap.size→g85∈blocks (([]:List Fact)++([]:List Fact)):=fun h=>absurd (Nat.lt_of_lt_of_le h (Nat.le_trans hM.size hG)) (Nat.lt_irrefl _)
 have hVf87:g85<w20.heap.size→g85∈blocks ([]:List Fact):=fun h=>absurd (Nat.lt_of_lt_of_le h (Nat.le_trans hM.size hG)) (Nat.lt_irrefl _)
 clear hG
 replace hM:=hM.none hF
 replace hD:=hM.wide (H:=([]:List Fact))
 refine ⟨hM,?_⟩
 refine mixE.nil ?_
 refine mixPE_alt ?_ ?_
 refine mixPE_chain ?_
 obtain ⟨u21,h89,hb⟩:=bd hb
 refine mixE.op hM (hC.make (s:=si) (n:=(y.length:Int)) underlying22 type3 rfl rfl rfl rfl rfl (pos_some h89).1 (pos_some h89).2 (by decide)) ?_
 rintro _ w94 ⟨A90,c91,rfl,hl92,hc93,hC,hF,hN⟩
 have hBf95:=Beside.new hM hN
 have hUf95:=Beside.new (hM.wide (H:=([]:List Fact))) hN
 replace hM:=hM.none hF
 replace hD:=hM.wide (H:=([]:List Fact))
 refine ⟨hM,?_⟩
 clear hF hN
 refine mixE.nil ?_
 refine mixPE_chain ?_
 obtain ⟨u29,h97,hb⟩:=bd hb
 refine mixE.op hM (hC.make (s:=si) (n:=(o.length:Int)) underlying22 type3 rfl rfl rfl rfl rfl (pos_some h97).1 (pos_some h97).2 (by decide)) ?_
 rintro _ w102 ⟨A98,c99,rfl,hl100,hc101,hC,hF,hN⟩
 have hBf103:=Beside.new hM hN
 have hUf103:=Beside.new (hM.wide (H:=([]:List Fact))) hN
 replace hM:=hM.none hF
 replace hD:=hM.wide (H:=([]:List Fact))
 refine ⟨hM,?_⟩
 clear hF hN
 refine mp (.agg #[.slice A90 (((rZ y.length)).length) c91,.slice A98 (((rZ o.length)).length) c99,iv M]) (pu_builds (places:=[(0,1),(1,1),(2,1)]) (pv:=[(0,.slice A90 (((rZ y.length)).length) c91),(1,.slice A98 (((rZ o.length)).length) c99),(2,iv M)]) type28 underlying28 rfl (mp_cons type22 (mp_cons type22 (mp_cons type3 mp_nil rfl rfl) rfl rfl) rfl rfl) rfl (by simp [Instr.fill,Value.cells]))<|mixE.sk hD (hC.seta (i:=2) (ds:=[.slice A90 (((rZ y.length)).length) c91,.slice A98 (((rZ o.length)).length) c99,iv M]) rfl type28 rfl rfl rfl rfl rfl) ?_
 rintro w104 ⟨hC,hF⟩
 replace hD:=hD.besideG hUf87 hF
 replace hM:=hM.besideG hVf87 hF
 clear hF
 refine ⟨hD,?_⟩
 refine mixE.nil ?_
 clear hS hM
 clear hD
 exact hK18 _ _ ⟨g85,(rZ y.length),(rZ o.length),A90,((rZ y.length)).length,c91,A98,((rZ o.length)).length,c99,rfl,rfl,rfl,rfl,rfl,hC.sE [10,5,9,8,3,4,11,7,6,2,1,0],hb⟩
 replace hb:=(gcomm0 _ _ _).symm.trans hb
 refine mixPE_chain ?_
 obtain ⟨u29,h106,hb⟩:=bd hb
 refine mixE.op hM (hC.make (s:=si) (n:=(o.length:Int)) underlying22 type3 rfl rfl rfl rfl rfl (pos_some h106).1 (pos_some h106).2 (by decide)) ?_
 rintro _ w111 ⟨A107,c108,rfl,hl109,hc110,hC,hF,hN⟩
 have hBf112:=Beside.new hM hN
 have hUf112:=Beside.new (hM.wide (H:=([]:List Fact))) hN
 replace hM:=hM.none hF
 replace hD:=hM.wide (H:=([]:List Fact))
 refine ⟨hM,?_⟩
 clear hF hN
 refine mixE.nil ?_
 refine mixPE_chain ?_
 obtain ⟨u21,h114,hb⟩:=bd hb
 refine mixE.op hM (hC.make (s:=si) (n:=(y.length:Int)) underlying22 type3 rfl rfl rfl rfl rfl (pos_some h114).1 (pos_some h114).2 (by decide)) ?_
 rintro _ w119 ⟨A115,c116,rfl,hl117,hc118,hC,hF,hN⟩
 have hBf120:=Beside.new hM hN
 have hUf120:=Beside.new (hM.wide (H:=([]:List Fact))) hN
 replace hM:=hM.none hF
 replace hD:=hM.wide (H:=([]:List Fact))
 refine ⟨hM,?_⟩
 clear hF hN
 refine mp (.agg #[.slice A115 (((rZ y.length)).length) c116,.slice A107 (((rZ o.length)).length) c108,iv M]) (pu_builds (places:=[(0,1),(1,1),(2,1)]) (pv:=[(0,.slice A115 (((rZ y.length)).length) c116),(1,.slice A107 (((rZ o.length)).length) c108),(2,iv M)]) type28 underlying28 rfl (mp_cons type22 (mp_cons type22 (mp_cons type3 mp_nil rfl rfl) rfl rfl) rfl rfl) rfl (by simp [Instr.fill,Value.cells]))<|mixE.sk hD (hC.seta (i:=2) (ds:=[.slice A115 (((rZ y.length)).length) c116,.slice A107 (((rZ o.length)).length) c108,iv M]) rfl type28 rfl rfl rfl rfl rfl) ?_
 rintro w121 ⟨hC,hF⟩
 replace hD:=hD.besideG hUf87 hF
 replace hM:=hM.besideG hVf87 hF
 clear hF
 refine ⟨hD,?_⟩
 refine mixE.nil ?_
 clear hS hM
 clear hD
 exact hK18 _ _ ⟨g85,(rZ y.length),(rZ o.length),A115,((rZ y.length)).length,c116,A107,((rZ o.length)).length,c108,rfl,rfl,rfl,rfl,rfl,hC.sE [10,5,9,8,3,4,11,7,6,2,0,1],hb⟩
 clear hb hC
 rintro E123 w122 ⟨gP8,L,D,G,Y,J,B,Z,C,e2,e3,e6,e7,e8,hC,hb⟩
 unfold F.mirror_move_mirror_exchange_c1_mirror_exchange_c2_j0 at hb
 obtain ⟨rfl,b6,b7⟩:=(hC.ow (i:=10) rfl).sl_len
 obtain ⟨rfl,b8,b9⟩:=(hC.ow (i:=11) rfl).sl_len
 refine Wc.seq fun _ hK124=>?_
 refine Wc.seq fun _ hK125=>rg<|lp (.pointer (some ((⟨g8,0,none⟩:Addr).add 0))) (pu_field (sz:=1) underlying28 rfl sizeOf22 (by decide) rfl e3)<|lv (.slice T y.length S) (ld_fld (hC.bx (i:=1) rfl) isAgg22 rfl rfl)<|lp (iv (y.length:Int)) (pu_len (A:=T) (n:=y.length) (m:=S) underlying22 rfl)<|lp (iv 0) (pu_move rfl)<|ln (hK125 _ _ ?_)
 obtain ⟨o126,hl1,f126,hf126,hb⟩:=bn hb
 refine Wc.cut (fun E wv=> ∃(R:Int) (N:List Int),E 3=pg g8∧E 6=pg g14∧E 7=.func (.func 83) #[] #[pg g11]∧E 8=pg gP8∧I64 R∧Cx I O0 w wv [.box g8 28 [.slice T y.length S,.slice Q o.length P,iv M],.ro (.sl si) [.slice T y.length S] y,.ro (.sl si) [.slice Q o.length P] o,.box g14 28 [.slice none 0 0,.slice none 0 0,iv 0],.box g11 80 [.func (.func 80) #[] #[pg c,pg d]],.box c 78 [.func (.func 56) #[] #[]],.box d 28 [.slice p j.length q,.slice u l.length x,iv z],.ro (.sl si) [.slice p j.length q] j,.ro (.sl si) [.slice u l.length x] l,.box gP8 28 [.slice G L.length J,.slice B D.length C,iv M],.own 3 si (.slice G L.length J) N,.own 3 si (.slice B D.length C) D]∧f126 (R,N)=some r) (fun _ hK127=>?_) ?_
 refine Wc.block ?_
 refine Wc.loop (fun m E wv=> ∃(R:Int) (N:List Int),E 2=.func (.func 81) #[] #[pg c]∧E 3=pg g8∧E 6=pg g14∧E 7=.func (.func 83) #[] #[pg g11]∧E 8=pg gP8∧E 26=.slice T y.length S∧E 27=iv (y.length:Int)∧E 28=iv R∧I64 R∧Cx I O0 w wv [.box c 78 [.func (.func 56) #[] #[]],.box g8 28 [.slice T y.length S,.slice Q o.length P,iv M],.ro (.sl si) [.slice T y.length S] y,.ro (.sl si) [.slice Q o.length P] o,.box g14 28 [.slice none 0 0,.slice none 0 0,iv 0],.box g11 80 [.func (.func 80) #[] #[pg c,pg d]],.box d 28 [.slice p j.length q,.slice u l.length x,iv z],.ro (.sl si) [.slice p j.length q] j,.ro (.sl si) [.slice u l.length x] l,.box gP8 28 [.slice G L.length J,.slice B D.length C,iv M],.own 3 si (.slice G L.length J) N,.own 3 si (.slice B D.length C) D]∧loopN m (F.mirror_move_mirror_exchange_c1_mirror_exchange_c2_b1 n y) (R,N)=some o126) n ⟨0,L,e2,e3,e6,e7,e8,rfl,rfl,rfl,(show I64 0 from by unfold I64; omega),hC.sE [0,1,2,3,4,5,6,7,8,9,10,11],hl1⟩ ?_
 have hbK1:=hb
 clear hb hC hl1
 rintro m129 E131 w130 ⟨R,N,e2,e3,e6,e7,e8,e26,e27,e28,a0,hC,hl1⟩ K128 hK128
 obtain ⟨m129',o132,rfl,hb,hl1⟩:=loopN_some hl1
 unfold F.mirror_move_mirror_exchange_c1_mirror_exchange_c2_b1 at hb
 refine Wc.seq fun _ hK133=>rg<|lp _ (pu_lss e28 e27)<|ln (hK133 _ _ ?_)
 refine Wc.seq fun _ hK134=>?_
 refine Wc.cond (t:=(decide (R<(y.length:Int)))) (rfl) (fun hq135=>?_) (fun hq135=>?_)
 replace hb:=tt hq135 hb
 refine Wc.skip (hK134 _ _ ?_)
 refine Wc.seq fun _ hK136=>?_
 refine Wc.block<|Wc.seq fun _ hK137=>rg<|lp _ (pu_move e28) ?_
 obtain ⟨x138,h139,hb⟩:=bd hb
 obtain ⟨ad140,cs141,hA,hc142,hr143⟩:=hC.elr (i:=2) rfl (get_some h139).2
 subst hA
 refine lp (.pointer (some (ad140.add (R.toNat*1)))) (pu_index (a:=R) underlying22 sizeOf3 e26 e28 (get_some h139).1) ?_
 obtain ⟨rfl,hr143'⟩:=hr143
 refine lv (iv x138) (ld_one isAgg3 rfl (hc142 0 _ rfl))<|lp (iv R) (pu_assign rfl)<|lp (iv x138) (pu_assign rfl)<|ln (hK137 _ _ ?_)
 refine Wc.regionMix [34] (frm [34] ([]:List Fact) [.own 3 si (.slice G L.length J) N]) (fun _=>rfl) mixed (by decide+kernel) (by decide+kernel) fun w145 hw144=>?_
 replace hC:=hC.step (Fr.of_drew hw144)
 have hM:=Fr.refl (fun k=>k∈blocks ([]:List Fact)) w145
 clear hw144
 have hS:=hC
 have hD:Fr (fun k=>k∈blocks (([]:List Fact)++[.own 3 si (.slice G L.length J) N])) w145 w145:=hM.wide
 have a9:Beside (([]:List Fact)++[.own 3 si (.slice G L.length J) N]) w145 (.slice G L.length J):=Beside.of (i:=0) rfl
 refine mp (.pointer (some ((⟨gP8,0,none⟩:Addr).add 0))) (pu_field (sz:=1) underlying28 rfl sizeOf22 (by decide) rfl e8)<|mixE.steady hD (v:=.slice G L.length J) (fun _ hF=>ld_fld (hS.bx2 (i:=9) rfl [10] (by decide) hF) isAgg22 rfl rfl)<|mp (iv R) (pu_move rfl)<|mp (iv x138) (pu_move rfl)<|mp (.func (.func 81) #[] #[pg c]) (pu_move e2)<|mp (iv R) (pu_move rfl) ?_
 replace hC:Cx I O0 w w145 ([.box c 78 [.func (.func 56) #[] #[]]]++[.box g8 28 [.slice (some ad140) y.length S,.slice Q o.length P,iv M],.ro (.sl si) [.slice (some ad140) y.length S] y,.ro (.sl si) [.slice Q o.length P] o,.box g14 28 [.slice none 0 0,.slice none 0 0,iv 0],.box g11 80 [.func (.func 80) #[] #[pg c,pg d]],.box d 28 [.slice p j.length q,.slice u l.length x,iv z],.ro (.sl si) [.slice p j.length q] j,.ro (.sl si) [.slice u l.length x] l,.box gP8 28 [.slice G L.length J,.slice B D.length C,iv M],.own 3 si (.slice G L.length J) N,.own 3 si (.slice B D.length C) D]):=hC.sE [0,1,2,3,4,5,6,7,8,9,10,11]
 obtain ⟨y146,h147,hb⟩:=bd hb
 refine mixE.cl hM (⟨_,_,op_callv (vs:=[iv R,pg c]) (ca:=#[pg c]) call81 rfl rfl rfl,mirror_exchange_c2_ok n hC.lt a0 hC.give h147⟩) ?_
 rintro _ w149 ⟨rfl,hr148,hK⟩
 replace hM:=hM.none (Cx.still (hC.bx (i:=0) rfl) hK)
 replace hD:=hM.wide (H:=[.own 3 si (.slice G L.length J) N])
 refine ⟨hM,?_⟩
 replace hC:=hC.back hK
 clear hK
 obtain ⟨z150,h151,hb⟩:=bd hb
 refine mp (iv z150) (pu_mulc (a:=x138) (b:=y146) rfl rfl h151) ?_
 obtain ⟨x152,h153,hb⟩:=bd hb
 obtain ⟨ad154,cs155,hA,ho158,hc156,hr157⟩:=hS.elo2 (i:=10) rfl (get_some h153).2 [] (by decide)
 subst hA
 refine mp (.pointer (some (ad154.add (R.toNat*1)))) (pu_index (a:=R) underlying22 sizeOf3 rfl rfl (by rw [(hC.ow (i:=10) rfl).sl_len.1]; exact (get_some h153).1))<|mixE.sk hD (hC.put (i:=10) rfl rfl sizeOf3 (k:=R.toNat) (a:=z150) (by have:=(get_some h153).1; simp at this⊢; omega) (⟨rfl,I64.wr (chk_rng h151)⟩) rfl rfl rfl) ?_
 rintro w159 ⟨hC,hF⟩
 replace hD:=hD.beside a9 hF
 clear hF
 refine ⟨hD,?_⟩
 refine mixE.nil ?_
 clear hS hM
 clear hD
 refine hK136 _ _<|rg ?_
 obtain ⟨z160,h161,hb⟩:=bd hb
 refine lp (iv z160) (pu_addc (a:=R) (b:=1) e28 rfl h161)<|lp (iv z160) (pu_move rfl)<|ln ?_
 obtain rfl:=os hb
 exact hK128 m129' _ _ (Nat.lt_succ_self _) ⟨z160,(N.set R.toNat z150),e2,e3,e6,e7,e8,e26,e27,rfl,(chk_rng h161),hC.sE [0,1,2,3,4,5,6,7,8,9,10,11],lN hl1⟩
 replace hb:=tf hq135 hb
 refine Wc.exit rfl ?_
 obtain rfl:=os hb
 obtain rfl:=(lX hl1).symm
 exact hK127 _ _ ⟨R,N,e3,e6,e7,e8,a0,hC.sE [1,2,3,4,5,0,6,7,8,9,10,11],hbK1⟩
 clear hb hC hl1
 rintro E163 w162 ⟨R,N,e3,e6,e7,e8,a0,hC,hb⟩
 subst hf126
 refine hK124 _ _ ?_
 refine Wc.seq fun _ hK164=>?_
 refine Wc.seq fun _ hK165=>rg<|lp (.pointer (some ((⟨g8,0,none⟩:Addr).add 1))) (pu_field (sz:=1) underlying28 rfl sizeOf22 (by decide) rfl e3)<|lv (.slice Q o.length P) (ld_fld (hC.bx (i:=0) rfl) isAgg22 rfl rfl)<|lp (iv (o.length:Int)) (pu_len (A:=Q) (n:=o.length) (m:=P) underlying22 rfl)<|lp (iv 0) (pu_move rfl)<|ln (hK165 _ _ ?_)
 obtain ⟨o166,hl2,f166,hf166,hb⟩:=bn hb
 refine Wc.cut (fun E wv=> ∃(U:Int) (K:List Int),E 6=pg g14∧E 8=pg gP8∧I64 U∧Cx I O0 w wv [.box g14 28 [.slice none 0 0,.slice none 0 0,iv 0],.box gP8 28 [.slice G L.length J,.slice B D.length C,iv M],.own 3 si (.slice G L.length J) N,.own 3 si (.slice B D.length C) K,.box c 78 [.func (.func 56) #[] #[]],.box d 28 [.slice p j.length q,.slice u l.length x,iv z],.ro (.sl si) [.slice p j.length q] j,.ro (.sl si) [.slice u l.length x] l]∧f166 (U,K)=some r) (fun _ hK167=>?_) ?_
 refine Wc.block ?_
 refine Wc.loop (fun m E wv=> ∃(U:Int) (K:List Int),E 6=pg g14∧E 7=.func (.func 83) #[] #[pg g11]∧E 8=pg gP8∧E 44=.slice Q o.length P∧E 45=iv (o.length:Int)∧E 46=iv U∧I64 U∧Cx I O0 w wv [.box g14 28 [.slice none 0 0,.slice none 0 0,iv 0],.box g11 80 [.func (.func 80) #[] #[pg c,pg d]],.box c 78 [.func (.func 56) #[] #[]],.box d 28 [.slice p j.length q,.slice u l.length x,iv z],.ro (.sl si) [.slice p j.length q] j,.ro (.sl si) [.slice u l.length x] l,.box gP8 28 [.slice G L.length J,.slice B D.length C,iv M],.own 3 si (.slice G L.length J) N,.own 3 si (.slice B D.length C) K,.ro (.sl si) [.slice Q o.length P] o]∧loopN m (F.mirror_move_mirror_exchange_c1_mirror_exchange_c2_b2 n o j l z) (U,K)=some o166) n ⟨0,D,e6,e7,e8,rfl,rfl,rfl,(show I64 0 from by unfold I64; omega),hC.sE [3,4,5,6,7,8,9,10,11,2],hl2⟩ ?_
 have hbK2:=hb
 clear hb hC hl2
 rintro m169 E171 w170 ⟨U,K,e6,e7,e8,e44,e45,e46,a1,hC,hl2⟩ K168 hK168
 obtain ⟨m169',o172,rfl,hb,hl2⟩:=loopN_some hl2
 unfold F.mirror_move_mirror_exchange_c1_mirror_exchange_c2_b2 at hb
 refine Wc.seq fun _ hK173=>rg<|lp _ (pu_lss e46 e45)<|ln (hK173 _ _ ?_)
 refine Wc.seq fun _ hK174=>?_
 refine Wc.cond (t:=(decide (U<(o.length:Int)))) (rfl) (fun hq175=>?_) (fun hq175=>?_)
 replace hb:=tt hq175 hb
 refine Wc.skip (hK174 _ _ ?_)
 refine Wc.seq fun _ hK176=>?_
 refine Wc.block<|Wc.seq fun _ hK177=>rg<|lp _ (pu_move e46) ?_
 obtain ⟨x178,h179,hb⟩:=bd hb
 obtain ⟨ad180,cs181,hA,hc182,hr183⟩:=hC.elr (i:=9) rfl (get_some h179).2
 subst hA
 refine lp (.pointer (some (ad180.add (U.toNat*1)))) (pu_index (a:=U) underlying22 sizeOf3 e44 e46 (get_some h179).1) ?_
 obtain ⟨rfl,hr183'⟩:=hr183
 refine lv (iv x178) (ld_one isAgg3 rfl (hc182 0 _ rfl))<|lp (iv U) (pu_assign rfl)<|lp (iv x178) (pu_assign rfl)<|ln (hK177 _ _ ?_)
 refine Wc.regionMix [52] (frm [52] [.box g11 80 [.func (.func 80) #[] #[pg c,pg d]],.box c 78 [.func (.func 56) #[] #[]],.box d 28 [.slice p j.length q,.slice u l.length x,iv z]] [.own 3 si (.slice B D.length C) K]) (fun _=>rfl) mixed (by decide+kernel) (by decide+kernel) fun w185 hw184=>?_
 replace hC:=hC.step (Fr.of_drew hw184)
 have hM:=Fr.refl (fun k=>k∈blocks [.box g11 80 [.func (.func 80) #[] #[pg c,pg d]],.box c 78 [.func (.func 56) #[] #[]],.box d 28 [.slice p j.length q,.slice u l.length x,iv z]]) w185
 clear hw184
 have hS:=hC
 have hBf13: ∀g,g<w185.heap.size→some g11=some g→g∈blocks [.box g11 80 [.func (.func 80) #[] #[pg c,pg d]],.box c 78 [.func (.func 56) #[] #[]],.box d 28 [.slice p j.length q,.slice u l.length x,iv z]]:=fun g _ hg=>Option.some.inj hg▸box_in (i:=0) rfl
 have hBf3: ∀g,g<w185.heap.size→some c=some g→g∈blocks [.box g11 80 [.func (.func 80) #[] #[pg c,pg d]],.box c 78 [.func (.func 56) #[] #[]],.box d 28 [.slice p j.length q,.slice u l.length x,iv z]]:=fun g _ hg=>Option.some.inj hg▸box_in (i:=1) rfl
 have hBf4: ∀g,g<w185.heap.size→some d=some g→g∈blocks [.box g11 80 [.func (.func 80) #[] #[pg c,pg d]],.box c 78 [.func (.func 56) #[] #[]],.box d 28 [.slice p j.length q,.slice u l.length x,iv z]]:=fun g _ hg=>Option.some.inj hg▸box_in (i:=2) rfl
 have hD:Fr (fun k=>k∈blocks ([.box g11 80 [.func (.func 80) #[] #[pg c,pg d]],.box c 78 [.func (.func 56) #[] #[]],.box d 28 [.slice p j.length q,.slice u l.length x,iv z]]++[.own 3 si (.slice B D.length C) K])) w185 w185:=hM.wide
 have hUf13:g11<w185.heap.size→g11∈blocks ([.box g11 80 [.func (.func 80) #[] #[pg c,pg d]],.box c 78 [.func (.func 56) #[] #[]],.box d 28 [.slice p j.length q,.slice u l.length x,iv z]]++[.own 3 si (.slice B D.length C) K]):=fun _=>box_in (i:=0) rfl
 have hUf3:c<w185.heap.size→c∈blocks ([.box g11 80 [.func (.func 80) #[] #[pg c,pg d]],.box c 78 [.func (.func 56) #[] #[]],.box d 28 [.slice p j.length q,.slice u l.length x,iv z]]++[.own 3 si (.slice B D.length C) K]):=fun _=>box_in (i:=1) rfl
 have hUf4:d<w185.heap.size→d∈blocks ([.box g11 80 [.func (.func 80) #[] #[pg c,pg d]],.box c 78 [.func (.func 56) #[] #[]],.box d 28 [.slice p j.length q,.slice u l.length x,iv z]]++[.own 3 si (.slice B D.length C) K]):=fun _=>box_in (i:=2) rfl
 have b0:Beside ([.box g11 80 [.func (.func 80) #[] #[pg c,pg d]],.box c 78 [.func (.func 56) #[] #[]],.box d 28 [.slice p j.length q,.slice u l.length x,iv z]]++[.own 3 si (.slice B D.length C) K]) w185 (.slice B D.length C):=Beside.of (i:=3) rfl
 refine mp (.pointer (some ((⟨gP8,0,none⟩:Addr).add 1))) (pu_field (sz:=1) underlying28 rfl sizeOf22 (by decide) rfl e8)<|mixE.steady hD (v:=.slice B D.length C) (fun _ hF=>ld_fld (hS.bx2 (i:=6) rfl [1,2,3,8] (by decide) hF) isAgg22 rfl rfl)<|mp (.func (.func 83) #[] #[pg g11]) (pu_move e7)<|mp (iv U) (pu_move rfl) ?_
 replace hC:Cx I O0 w w185 ([.box g11 80 [.func (.func 80) #[] #[pg c,pg d]],.box c 78 [.func (.func 56) #[] #[]],.box d 28 [.slice p j.length q,.slice u l.length x,iv z]]++[.box g14 28 [.slice none 0 0,.slice none 0 0,iv 0],.ro (.sl si) [.slice p j.length q] j,.ro (.sl si) [.slice u l.length x] l,.box gP8 28 [.slice G L.length J,.slice B D.length C,iv M],.own 3 si (.slice G L.length J) N,.own 3 si (.slice B D.length C) K,.ro (.sl si) [.slice (some ad180) o.length P] o]):=hC.sE [1,2,3,0,4,5,6,7,8,9]
 obtain ⟨y186,h187,hb⟩:=bd hb
 refine mixE.cl hM (⟨_,_,op_callv (vs:=[iv U,pg g11]) (ca:=#[pg g11]) call83 rfl rfl rfl,mirror_move_c1_ok n hC.lt a1 (hC.rd (i:=4) rfl) (hC.rd (i:=5) rfl) a4 hC.give h187⟩) ?_
 rintro _ w189 ⟨rfl,hr188,hK⟩
 have hL190: ∀f∈([.box g11 80 [.func (.func 80) #[] #[pg c,pg d]],.box c 78 [.func (.func 56) #[] #[]],.box d 28 [.slice p j.length q,.slice u l.length x,iv z]]:List Fact),∀g,g<w185.heap.size→f.blk=some g→g∈blocks [.box g11 80 [.func (.func 80) #[] #[pg c,pg d]],.box c 78 [.func (.func 56) #[] #[]],.box d 28 [.slice p j.length q,.slice u l.length x,iv z]]:=List.forall_mem_cons.2 ⟨hBf13,List.forall_mem_cons.2 ⟨hBf3,List.forall_mem_cons.2 ⟨hBf4,fun _ h=>absurd h List.not_mem_nil⟩⟩⟩
 replace hM:=hM.besideL hL190 hK.fr
 replace hD:=hM.wide (H:=[.own 3 si (.slice B D.length C) K])
 refine ⟨hM,?_⟩
 replace hC:=hC.back hK
 clear hK
 refine mp (.func (.func 83) #[] #[pg g11]) (pu_move e7)<|mp (iv x178) (pu_move rfl) ?_
 replace hC:Cx I O0 w w189 ([.box g11 80 [.func (.func 80) #[] #[pg c,pg d]],.box c 78 [.func (.func 56) #[] #[]],.box d 28 [.slice p j.length q,.slice u l.length x,iv z]]++[.box g14 28 [.slice none 0 0,.slice none 0 0,iv 0],.ro (.sl si) [.slice p j.length q] j,.ro (.sl si) [.slice u l.length x] l,.box gP8 28 [.slice G L.length J,.slice B D.length C,iv M],.own 3 si (.slice G L.length J) N,.own 3 si (.slice B D.length C) K,.ro (.sl si) [.slice (some ad180) o.length P] o]):=hC.sE [0,1,2,3,4,5,6,7,8,9]
 obtain ⟨y191,h192,hb⟩:=bd hb
 refine mixE.cl hM (⟨_,_,op_callv (vs:=[iv x178,pg g11]) (ca:=#[pg g11]) call83 rfl rfl rfl,mirror_move_c1_ok n hC.lt (wrap_I64 hr183') (hC.rd (i:=4) rfl) (hC.rd (i:=5) rfl) a4 hC.give h192⟩) ?_
 rintro _ w194 ⟨rfl,hr193,hK⟩
 have hL195: ∀f∈([.box g11 80 [.func (.func 80) #[] #[pg c,pg d]],.box c 78 [.func (.func 56) #[] #[]],.box d 28 [.slice p j.length q,.slice u l.length x,iv z]]:List Fact),∀g,g<w185.heap.size→f.blk=some g→g∈blocks [.box g11 80 [.func (.func 80) #[] #[pg c,pg d]],.box c 78 [.func (.func 56) #[] #[]],.box d 28 [.slice p j.length q,.slice u l.length x,iv z]]:=List.forall_mem_cons.2 ⟨hBf13,List.forall_mem_cons.2 ⟨hBf3,List.forall_mem_cons.2 ⟨hBf4,fun _ h=>absurd h List.not_mem_nil⟩⟩⟩
 replace hM:=hM.besideL hL195 hK.fr
 replace hD:=hM.wide (H:=[.own 3 si (.slice B D.length C) K])
 refine ⟨hM,?_⟩
 replace hC:=hC.back hK
 clear hK
 obtain ⟨x196,h197,hb⟩:=bd hb
 obtain ⟨ad198,cs199,hA,ho202,hc200,hr201⟩:=hS.elo2 (i:=8) rfl (get_some h197).2 [1,2,3] (by decide)
 subst hA
 refine mp (.pointer (some (ad198.add (y186.toNat*1)))) (pu_index (a:=y186) underlying22 sizeOf3 rfl rfl (by rw [(hC.ow (i:=8) rfl).sl_len.1]; exact (get_some h197).1))<|mixE.sk hD (hC.put (i:=8) rfl rfl sizeOf3 (k:=y186.toNat) (a:=y191) (by have:=(get_some h197).1; simp at this⊢; omega) (⟨rfl,I64.wr hr193⟩) rfl rfl rfl) ?_
 rintro w203 ⟨hC,hF⟩
 replace hD:=hD.beside b0 hF
 clear hF
 refine ⟨hD,?_⟩
 refine mixE.nil ?_
 clear hS hM
 clear hD
 refine hK176 _ _<|rg ?_
 obtain ⟨z204,h205,hb⟩:=bd hb
 refine lp (iv z204) (pu_addc (a:=U) (b:=1) e46 rfl h205)<|lp (iv z204) (pu_move rfl)<|ln ?_
 obtain rfl:=os hb
 exact hK168 m169' _ _ (Nat.lt_succ_self _) ⟨z204,(K.set y186.toNat y191),e6,e7,e8,e44,e45,rfl,(chk_rng h205),hC.sE [3,0,1,2,4,5,6,7,8,9],lN hl2⟩
 replace hb:=tf hq175 hb
 refine Wc.exit rfl ?_
 obtain rfl:=os hb
 obtain rfl:=(lX hl2).symm
 exact hK167 _ _ ⟨U,K,e6,e8,a1,hC.sE [0,6,7,8,2,3,4,5],hbK2⟩
 clear hb hC hl2
 rintro E207 w206 ⟨U,K,e6,e8,a1,hC,hb⟩
 subst hf166
 refine hK164 _ _<|Wc.seq fun _ hK208=>rg<|lv (.agg #[.slice G L.length J,.slice B D.length C,iv M]) (ld_blk (hC.bx (i:=1) rfl) isAgg28 sizeOf28 e8)<|lex.sk (hC.seta (i:=0) (ds:=[.slice G L.length J,.slice B D.length C,iv M]) rfl type28 rfl rfl rfl e6 rfl) ?_
 rintro w209 ⟨hC,hF⟩
 refine ln (hK208 _ _ ?_)
 obtain rfl:=os hb
 subst hI
 refine Wc.ret (hKR _ _ ?_)
 refine ⟨_,res1 results60 ⟨_,e6,loadVar_blk (hC.bx (i:=0) rfl) isAgg28 sizeOf28⟩,_,rfl,G,L.length,J,B,D.length,C,rfl,b1,hC.sE [2,3,4,5]⟩
end Go.Proofs.Yticemffhlapnnaa
