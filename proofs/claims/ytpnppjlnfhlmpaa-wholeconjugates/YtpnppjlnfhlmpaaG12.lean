import Derived.Test.YtpnppjlnfhlmpaaS
import Derived.Test.YtpnppjlnfhlmpaaG2
import Derived.Test.YtpnppjlnfhlmpaaG6
import Derived.Test.YtpnppjlnfhlmpaaG9
import Derived.Test.YtpnppjlnfhlmpaaG10
import Derived.Test.YtpnppjlnfhlmpaaG11
set_option linter.all false
namespace Go.Proofs.Ytpnppjlnfhlmpaa
open Ev Try
set_option maxRecDepth 100000
set_option maxHeartbeats 4000000
theorem bivariate_Poly_Mul_ok (n:Nat) {w:World} {O0:List Nat} (hO: ∀k∈O0,k<w.heap.size) {s:Bool} {p:Option Addr} {C j:Nat} {c:List (Int×(Int×Int))} (D:Rep O0 w (.sl (.pr si (.pr si si))) [.slice p C j] c) {y:Bool} {f:Option Addr} {G h:Nat} {d:List (Int×(Int×Int))} (H:Rep O0 w (.sl (.pr si (.pr si si))) [.slice f G h] d) {r:Bool×(List (Int×(Int×Int)))} (hb:F.qfr n s c y d=some r):
    Calls prog 42 #[.agg #[.bool s,.slice p C j],.agg #[.bool y,.slice f G h]] w fun e w'=> ∃v,e=.returned v∧∃(A1:Option Addr) (m1 c1:Nat),v=.agg #[.bool r.1,.slice A1 m1 c1]∧Cx (fun _=>False) O0 w w' [.own 66 (.pr si (.pr si si)) (.slice A1 m1 c1) r.2]:=by
 unfold F.qfr at hb
 have hC:=Cx.start hO
 replace hC:=hC.arg rfl D
 replace hC:=hC.arg rfl H
 clear hO
 obtain ⟨rfl,J,K⟩:=D.qae
 obtain ⟨rfl,L,M⟩:=H.qae
 refine qao func42 rfl (by rw [ntmps42]; exact nb rfl) fun KR hKR=>?_
 refine Wc.seq fun _ hK3=>rg<|lex.op (hC.box (cs:=[.bool s,.slice p c.length j]) rfl rfl) ?_
 rintro _ w5 ⟨g4,rfl,hC,hF,-⟩
 refine lex.op (hC.box (cs:=[.bool y,.slice f d.length h]) rfl rfl) ?_
 rintro _ w8 ⟨g7,rfl,hC,hF,-⟩
 refine lex.op (hC.alloc (cs:=[.bool false,.slice none 0 0]) zeroValue37 rfl) ?_
 rintro _ w11 ⟨g10,rfl,hC,hF,-⟩
 refine ln (hK3 _ _ ?_)
 refine Wc.seq fun _ hK13=>?_
 refine Wc.seq fun _ hK14=>rg<|lp (.pointer (some ((⟨g4,0,none⟩:Addr).add 0))) (qaf (sz:=1) underlying37 rfl sizeOf4 (by decide) rfl rfl)<|lv (.bool s) (qal (hC.bx (i:=2) rfl) isAgg4 rfl rfl)<|lp (.bool s) (qaa rfl) ?_
 rcases bS s with hq15 | hq15
 replace hb:=tt hq15 hb
 refine gs rfl rfl s rfl hq15<|gs rfl rfl s rfl hq15<|lp (.bool true) (qap (q:=s) rfl hq15 rfl)<|ln (hK14 _ _ ?_)
 refine Wc.cond_true (rfl) ?_
 refine Wc.seq fun _ hK16=>rg<|lp (.agg #[.bool true,.slice none 0 0]) (qat (places:=[(0,1),(1,1)]) (pv:=[(0,.bool true)]) type37 underlying37 rfl (qag type4 (qag type35 qbb rfl rfl) rfl rfl) rfl (by simp [Instr.fill,Value.cells]))<|lex.sk (hC.seta (i:=0) (ds:=[.bool true,.slice none 0 0]) rfl type37 rfl rfl rfl rfl rfl) ?_
 rintro w17 ⟨hC,hF⟩
 refine ln (hK16 _ _ ?_)
 replace hC:=hC.nil 66 (.pr si (.pr si si))
 obtain rfl:=os hb
 refine Wc.ret (hKR _ _ ?_)
 refine ⟨_,res1 results42 ⟨_,rfl,qai (hC.bx (i:=1) rfl) isAgg37 sizeOf37⟩,_,rfl,none,0,0,rfl,hC.sE [0]⟩
 replace hb:=tf hq15 hb
 refine gp rfl rfl s rfl hq15 (.pointer (some ((⟨g7,0,none⟩:Addr).add 0))) (qaf (sz:=1) underlying37 rfl sizeOf4 (by decide) rfl rfl)<|gv rfl rfl s rfl hq15 (.bool y) (qal (hC.bx (i:=1) rfl) isAgg4 rfl rfl)<|lp (.bool y) (qak (q:=s) rfl hq15 rfl)<|ln (hK14 _ _ ?_)
 refine Wc.cond (t:=y) (rfl) (fun hq19=>?_) (fun hq19=>?_)
 replace hb:=tt hq19 hb
 refine Wc.seq fun _ hK20=>rg<|lp (.agg #[.bool true,.slice none 0 0]) (qat (places:=[(0,1),(1,1)]) (pv:=[(0,.bool true)]) type37 underlying37 rfl (qag type4 (qag type35 qbb rfl rfl) rfl rfl) rfl (by simp [Instr.fill,Value.cells]))<|lex.sk (hC.seta (i:=0) (ds:=[.bool true,.slice none 0 0]) rfl type37 rfl rfl rfl rfl rfl) ?_
 rintro w21 ⟨hC,hF⟩
 refine ln (hK20 _ _ ?_)
 replace hC:=hC.nil 66 (.pr si (.pr si si))
 obtain rfl:=os hb
 refine Wc.ret (hKR _ _ ?_)
 refine ⟨_,res1 results42 ⟨_,rfl,qai (hC.bx (i:=1) rfl) isAgg37 sizeOf37⟩,_,rfl,none,0,0,rfl,hC.sE [0]⟩
 replace hb:=tf hq19 hb
 refine Wc.skip (hK13 _ _ ?_)
 refine Wc.seq fun _ hK23=>?_
 refine Wc.seq fun _ hK24=>rg<|lp (.pointer (some ((⟨g4,0,none⟩:Addr).add 1))) (qaf (sz:=1) underlying37 rfl sizeOf35 (by decide) rfl rfl)<|lv (.slice p c.length j) (qal (hC.bx (i:=2) rfl) isAgg35 rfl rfl)<|lp (iv (c.length:Int)) (qay (A:=p) (n:=c.length) (m:=j) underlying35 rfl)<|lp (.bool (decide ((c.length:Int)=0))) (qbl (k:=.i64) (a:=(c.length:Int)) (b:=0) rfl rfl)<|lp (.bool (decide ((c.length:Int)=0))) (qaa rfl) ?_
 rcases bS (decide ((c.length:Int)=0)) with hq25 | hq25
 replace hb:=tt hq25 hb
 refine gs rfl rfl (decide ((c.length:Int)=0)) rfl hq25<|gs rfl rfl (decide ((c.length:Int)=0)) rfl hq25<|gs rfl rfl (decide ((c.length:Int)=0)) rfl hq25<|gs rfl rfl (decide ((c.length:Int)=0)) rfl hq25<|lp (.bool true) (qap (q:=(decide ((c.length:Int)=0))) rfl hq25 rfl)<|ln (hK24 _ _ ?_)
 refine Wc.fresh fun E26 hE=>?_
 have e2:E26 2=pg g4:=cg hE 2 rfl
 have e3:E26 3=pg g7:=cg hE 3 rfl
 have e4:E26 4=pg g10:=cg hE 4 rfl
 have e27:E26 27=.bool true:=cg hE 27 rfl
 clear hE
 refine Wc.cond_true (e27) ?_
 refine Wc.seq fun _ hK27=>rg<|lp (.agg #[.bool false,.slice none 0 0]) (qat (places:=[(0,1),(1,1)]) (pv:=[]) type37 underlying37 rfl (qag type4 (qag type35 qbb rfl rfl) rfl rfl) rfl (by simp [Instr.fill,Value.cells]))<|lex.sk (hC.seta (i:=0) (ds:=[.bool false,.slice none 0 0]) rfl type37 rfl rfl rfl e4 rfl) ?_
 rintro w28 ⟨hC,hF⟩
 refine ln (hK27 _ _ ?_)
 replace hC:=hC.nil 66 (.pr si (.pr si si))
 obtain rfl:=os hb
 refine Wc.ret (hKR _ _ ?_)
 refine ⟨_,res1 results42 ⟨_,e4,qai (hC.bx (i:=1) rfl) isAgg37 sizeOf37⟩,_,rfl,none,0,0,rfl,hC.sE [0]⟩
 replace hb:=tf hq25 hb
 refine gp rfl rfl (decide ((c.length:Int)=0)) rfl hq25 (.pointer (some ((⟨g7,0,none⟩:Addr).add 1))) (qaf (sz:=1) underlying37 rfl sizeOf35 (by decide) rfl rfl)<|gv rfl rfl (decide ((c.length:Int)=0)) rfl hq25 (.slice f d.length h) (qal (hC.bx (i:=1) rfl) isAgg35 rfl rfl)<|gp rfl rfl (decide ((c.length:Int)=0)) rfl hq25 (iv (d.length:Int)) (qay (A:=f) (n:=d.length) (m:=h) underlying35 rfl)<|gp rfl rfl (decide ((c.length:Int)=0)) rfl hq25 (.bool (decide ((d.length:Int)=0))) (qbl (k:=.i64) (a:=(d.length:Int)) (b:=0) rfl rfl)<|lp (.bool (decide ((d.length:Int)=0))) (qak (q:=(decide ((c.length:Int)=0))) rfl hq25 rfl)<|ln (hK24 _ _ ?_)
 refine Wc.fresh fun E30 hE=>?_
 have e2:E30 2=pg g4:=cg hE 2 rfl
 have e3:E30 3=pg g7:=cg hE 3 rfl
 have e4:E30 4=pg g10:=cg hE 4 rfl
 have e27:E30 27=.bool (decide ((d.length:Int)=0)):=cg hE 27 rfl
 clear hE
 refine Wc.cond (t:=(decide ((d.length:Int)=0))) (e27) (fun hq31=>?_) (fun hq31=>?_)
 replace hb:=tt hq31 hb
 refine Wc.seq fun _ hK32=>rg<|lp (.agg #[.bool false,.slice none 0 0]) (qat (places:=[(0,1),(1,1)]) (pv:=[]) type37 underlying37 rfl (qag type4 (qag type35 qbb rfl rfl) rfl rfl) rfl (by simp [Instr.fill,Value.cells]))<|lex.sk (hC.seta (i:=0) (ds:=[.bool false,.slice none 0 0]) rfl type37 rfl rfl rfl e4 rfl) ?_
 rintro w33 ⟨hC,hF⟩
 refine ln (hK32 _ _ ?_)
 replace hC:=hC.nil 66 (.pr si (.pr si si))
 obtain rfl:=os hb
 refine Wc.ret (hKR _ _ ?_)
 refine ⟨_,res1 results42 ⟨_,e4,qai (hC.bx (i:=1) rfl) isAgg37 sizeOf37⟩,_,rfl,none,0,0,rfl,hC.sE [0]⟩
 replace hb:=tf hq31 hb
 refine Wc.skip (hK23 _ _ ?_)
 refine Wc.seq fun _ hK35=>?_
 refine Wc.seq fun _ hK36=>?_
 refine Wc.regionMix [] (frm [] ([]:List Fact) ([]:List Fact)) (fun _=>rfl) mixed (by decide+kernel) (by decide+kernel) fun w38 hw37=>?_
 replace hC:=hC.step (Fr.qcx hw37)
 have hM:=Fr.refl (fun k=>k∈blocks ([]:List Fact)) w38
 clear hw37
 have hS:=hC
 refine mixE.load hM (v:=.agg #[.bool s,.slice p c.length j]) (fun _ hF=>qaq (hS.bx2 (i:=2) rfl [] (by decide) hF) isAgg37 sizeOf37 e2) ?_
 obtain ⟨y39,h40,hb⟩:=bd hb
 refine mixE.cl hM (⟨_,_,qam (vs:=[.agg #[.bool s,.slice p c.length j]]) call55 rfl rfl rfl,qhl n hC.lt (hC.rd (i:=4) rfl) h40⟩) ?_
 rintro _ w42 ⟨rfl,hr41,hK⟩
 replace hM:=hM.none hK.fr
 refine ⟨hM,?_⟩
 replace hC:=hC.merge hK
 clear hK
 refine mixE.load hM (v:=.agg #[.bool y,.slice f d.length h]) (fun _ hF=>qaq (hS.bx2 (i:=1) rfl [] (by decide) hF) isAgg37 sizeOf37 e3) ?_
 obtain ⟨y43,h44,hb⟩:=bd hb
 refine mixE.cl hM (⟨_,_,qam (vs:=[.agg #[.bool y,.slice f d.length h]]) call55 rfl rfl rfl,qhl n hC.lt (hC.rd (i:=3) rfl) h44⟩) ?_
 rintro _ w46 ⟨rfl,hr45,hK⟩
 replace hM:=hM.none hK.fr
 refine ⟨hM,?_⟩
 replace hC:=hC.merge hK
 clear hK
 obtain ⟨u47,h48,hb⟩:=bd hb
 obtain ⟨z49,h50,hb⟩:=bd hb
 refine mp (iv z49) (qfu (a:=1125899906842624) (b:=y43) rfl rfl h48 h50)<|mp (.bool (decide (z49<y39))) (qfq (k:=.i64) (a:=y39) (b:=z49) rfl rfl)<|mixE.nil ?_
 clear hS hM
 refine hK36 _ _<|Wc.cond (t:=(decide (z49<y39))) (rfl) (fun hq51=>?_) (fun hq51=>?_)
 replace hb:=tt hq51 hb
 refine Wc.seq fun _ hK52=>rg<|lp (.agg #[.bool true,.slice none 0 0]) (qat (places:=[(0,1),(1,1)]) (pv:=[(0,.bool true)]) type37 underlying37 rfl (qag type4 (qag type35 qbb rfl rfl) rfl rfl) rfl (by simp [Instr.fill,Value.cells]))<|lex.sk (hC.seta (i:=0) (ds:=[.bool true,.slice none 0 0]) rfl type37 rfl rfl rfl e4 rfl) ?_
 rintro w53 ⟨hC,hF⟩
 refine ln (hK52 _ _ ?_)
 replace hC:=hC.nil 66 (.pr si (.pr si si))
 obtain rfl:=os hb
 refine Wc.ret (hKR _ _ ?_)
 refine ⟨_,res1 results42 ⟨_,e4,qai (hC.bx (i:=1) rfl) isAgg37 sizeOf37⟩,_,rfl,none,0,0,rfl,hC.sE [0]⟩
 replace hb:=tf hq51 hb
 refine Wc.skip (hK35 _ _ ?_)
 refine Wc.seq fun _ hK55=>rg<|lex.op (hC.mkmp .pair (.pr si si)) ?_
 rintro _ w57 ⟨g56,rfl,hC,-,-⟩
 refine lp (.map (some g56)) (qab rfl)<|ln (hK55 _ _ ?_)
 refine Wc.seq fun _ hK59=>?_
 refine Wc.seq fun _ hK60=>rg<|lp (.pointer (some ((⟨g4,0,none⟩:Addr).add 1))) (qaf (sz:=1) underlying37 rfl sizeOf35 (by decide) rfl e2)<|lv (.slice p c.length j) (qal (hC.bx (i:=3) rfl) isAgg35 rfl rfl)<|lp (iv (c.length:Int)) (qay (A:=p) (n:=c.length) (m:=j) underlying35 rfl)<|lp (iv 0) (qaa rfl)<|ln (hK60 _ _ ?_)
 refine Wc.fresh fun E61 hE=>?_
 have e3:=cg hE 3 e3
 have e4:=cg hE 4 e4
 have e5:E61 5=.map (some g56):=cg hE 5 rfl
 have e38:E61 38=.slice p c.length j:=cg hE 38 rfl
 have e39:E61 39=iv (c.length:Int):=cg hE 39 rfl
 have e40:E61 40=iv 0:=cg hE 40 rfl
 clear hE
 obtain ⟨o62,hl0,f62,hf62,hb⟩:=bn hb
 refine Wc.cut (fun E wv=> ∃(l:Int) (x:List ((Int×Int)×(Int×Int))),E 4=pg g10∧E 5=.map (some g56)∧I64 l∧Cx (fun _=>False) O0 w wv [.box g10 37 [.bool false,.slice none 0 0],.mp g56 .pair (.pr si si) x]∧f62 (l,x)=some r) (fun _ hK63=>?_) ?_
 refine Wc.block ?_
 refine Wc.loop (fun m E wv=> ∃(l:Int) (x:List ((Int×Int)×(Int×Int))),E 3=pg g7∧E 4=pg g10∧E 5=.map (some g56)∧E 38=.slice p c.length j∧E 39=iv (c.length:Int)∧E 40=iv l∧I64 l∧Cx (fun _=>False) O0 w wv [.box g7 37 [.bool y,.slice f d.length h],.ro (.sl (.pr si (.pr si si))) [.slice f d.length h] d,.box g10 37 [.bool false,.slice none 0 0],.mp g56 .pair (.pr si si) x,.ro (.sl (.pr si (.pr si si))) [.slice p c.length j] c]∧loopN m (F.qdi n c d) (l,x)=some o62) n ⟨0,([]:List ((Int×Int)×(Int×Int))),e3,e4,e5,e38,e39,e40,(show I64 0 from by unfold I64; omega),hC.sE [2,4,1,0,5],hl0⟩ ?_
 have hbK0:=hb
 clear hb hC hl0
 rintro m65 E67 w66 ⟨l,x,e3,e4,e5,e38,e39,e40,z,hC,hl0⟩ K64 hK64
 obtain ⟨m65',o68,rfl,hb,hl0⟩:=qax hl0
 unfold F.qdi at hb
 refine Wc.seq fun _ hK69=>rg<|lp _ (qbj e40 e39)<|ln (hK69 _ _ ?_)
 refine Wc.seq fun _ hK70=>?_
 refine Wc.cond (t:=(decide (l<(c.length:Int)))) (rfl) (fun hq71=>?_) (fun hq71=>?_)
 replace hb:=tt hq71 hb
 refine Wc.skip (hK70 _ _ ?_)
 refine Wc.seq fun _ hK72=>?_
 refine Wc.block<|Wc.seq fun _ hK73=>rg ?_
 obtain ⟨x74,h75,hb⟩:=bd hb
 obtain ⟨ad76,cs77,hA,hc78,hr79⟩:=hC.elr (i:=4) rfl (qad h75).2
 subst hA
 refine lp (.pointer (some (ad76.add (l.toNat*3)))) (qar (a:=l) underlying35 sizeOf66 e38 e40 (qad h75).1) ?_
 obtain ⟨k80,k81,rfl,hr82,hr83⟩:=hr79
 obtain ⟨rfl,hr82⟩:=hr82
 obtain ⟨k84,k85,rfl,hr86,hr87⟩:=hr83
 obtain ⟨rfl,hr86⟩:=hr86
 obtain ⟨rfl,hr87⟩:=hr87
 refine lv (.agg #[iv x74.1,iv x74.2.1,iv x74.2.2]) (ld_agg isAgg66 sizeOf66 rfl rfl hc78)<|lex.op (hC.alloc (cs:=[iv 0,iv 0,iv 0]) zeroValue66 rfl) ?_
 rintro _ w89 ⟨g88,rfl,hC,hF,-⟩
 refine lex.sk (hC.seta (i:=0) (ds:=[iv x74.1,iv x74.2.1,iv x74.2.2]) rfl type66 rfl rfl rfl rfl rfl) ?_
 rintro w91 ⟨hC,hF⟩
 refine ln (hK73 _ _ ?_)
 refine Wc.seq fun _ hK92=>rg<|lp (.pointer (some ((⟨g7,0,none⟩:Addr).add 1))) (qaf (sz:=1) underlying37 rfl sizeOf35 (by decide) rfl e3)<|lv (.slice f d.length h) (qal (hC.bx (i:=1) rfl) isAgg35 rfl rfl)<|lp (iv (d.length:Int)) (qay (A:=f) (n:=d.length) (m:=h) underlying35 rfl)<|lp (iv 0) (qaa rfl)<|ln (hK92 _ _ ?_)
 obtain ⟨o93,hl1,hb⟩:=bd hb
 refine Wc.cut (fun E wv=> ∃(u:Int) (o:List ((Int×Int)×(Int×Int))),E 3=pg g7∧E 4=pg g10∧E 5=.map (some g56)∧E 7=pg g88∧E 38=.slice (some ad76) c.length j∧E 39=iv (c.length:Int)∧E 40=iv l∧E 41=.bool (decide (l<(c.length:Int)))∧E 45=.slice f d.length h∧E 46=iv (d.length:Int)∧E 47=iv u∧I64 u∧Cx (fun _=>False) O0 w wv [.box g7 37 [.bool y,.slice f d.length h],.ro (.sl (.pr si (.pr si si))) [.slice f d.length h] d,.box g10 37 [.bool false,.slice none 0 0],.mp g56 .pair (.pr si si) o,.box g88 66 [iv x74.1,iv x74.2.1,iv x74.2.2],.ro (.sl (.pr si (.pr si si))) [.slice (some ad76) c.length j] c]∧((chk (l+1)).bind fun z154=>some (.inl (z154,o)):Option ((Int×(List ((Int×Int)×(Int×Int))))⊕((Int×(List ((Int×Int)×(Int×Int)))))))=some o68) (fun _ hK94=>?_) ?_
 refine Wc.block ?_
 refine Wc.loop (fun m E wv=> ∃(u:Int) (o:List ((Int×Int)×(Int×Int))),E 3=pg g7∧E 4=pg g10∧E 5=.map (some g56)∧E 7=pg g88∧E 38=.slice (some ad76) c.length j∧E 39=iv (c.length:Int)∧E 40=iv l∧E 41=.bool (decide (l<(c.length:Int)))∧E 45=.slice f d.length h∧E 46=iv (d.length:Int)∧E 47=iv u∧I64 u∧Cx (fun _=>False) O0 w wv [.box g7 37 [.bool y,.slice f d.length h],.ro (.sl (.pr si (.pr si si))) [.slice f d.length h] d,.box g10 37 [.bool false,.slice none 0 0],.mp g56 .pair (.pr si si) o,.box g88 66 [iv x74.1,iv x74.2.1,iv x74.2.2],.ro (.sl (.pr si (.pr si si))) [.slice (some ad76) c.length j] c]∧loopN m (F.qcw n d x74) (u,o)=some o93) n ⟨0,x,e3,e4,e5,rfl,e38,e39,e40,rfl,rfl,rfl,rfl,(show I64 0 from by unfold I64; omega),hC.sE [1,2,3,4,0,5],hl1⟩ ?_
 have hbK1:=hb
 clear hb hC hl1
 rintro m96 E98 w97 ⟨u,o,e3,e4,e5,e7,e38,e39,e40,e41,e45,e46,e47,B,hC,hl1⟩ K95 hK95
 obtain ⟨m96',o99,rfl,hb,hl1⟩:=qax hl1
 unfold F.qcw at hb
 refine Wc.seq fun _ hK100=>rg<|lp _ (qbj e47 e46)<|ln (hK100 _ _ ?_)
 refine Wc.seq fun _ hK101=>?_
 refine Wc.cond (t:=(decide (u<(d.length:Int)))) (rfl) (fun hq102=>?_) (fun hq102=>?_)
 replace hb:=tt hq102 hb
 refine Wc.skip (hK101 _ _ ?_)
 refine Wc.seq fun _ hK103=>?_
 refine Wc.block<|Wc.seq fun _ hK104=>rg ?_
 obtain ⟨x105,h106,hb⟩:=bd hb
 obtain ⟨ad107,cs108,hA,hc109,hr110⟩:=hC.elr (i:=1) rfl (qad h106).2
 subst hA
 refine lp (.pointer (some (ad107.add (u.toNat*3)))) (qar (a:=u) underlying35 sizeOf66 e45 e47 (qad h106).1) ?_
 obtain ⟨k111,k112,rfl,hr113,hr114⟩:=hr110
 obtain ⟨rfl,hr113⟩:=hr113
 obtain ⟨k115,k116,rfl,hr117,hr118⟩:=hr114
 obtain ⟨rfl,hr117⟩:=hr117
 obtain ⟨rfl,hr118⟩:=hr118
 refine lv (.agg #[iv x105.1,iv x105.2.1,iv x105.2.2]) (ld_agg isAgg66 sizeOf66 rfl rfl hc109)<|lex.op (hC.alloc (cs:=[iv 0,iv 0,iv 0]) zeroValue66 rfl) ?_
 rintro _ w120 ⟨g119,rfl,hC,hF,-⟩
 refine lex.sk (hC.seta (i:=0) (ds:=[iv x105.1,iv x105.2.1,iv x105.2.2]) rfl type66 rfl rfl rfl rfl rfl) ?_
 rintro w122 ⟨hC,hF⟩
 refine ln (hK104 _ _ ?_)
 refine Wc.seq fun _ hK123=>rg<|lp (.pointer (some ((⟨g88,0,none⟩:Addr).add 0))) (qaf (sz:=1) underlying66 rfl sizeOf3 (by decide) rfl e7)<|lv (iv x74.1) (qal (hC.bx (i:=5) rfl) isAgg3 rfl rfl)<|lp (.pointer (some ((⟨g119,0,none⟩:Addr).add 0))) (qaf (sz:=1) underlying66 rfl sizeOf3 (by decide) rfl rfl)<|lv (iv x105.1) (qal (hC.bx (i:=0) rfl) isAgg3 rfl rfl) ?_
 obtain ⟨z124,h125,hb⟩:=bd hb
 refine lp (iv z124) (qau (a:=x74.1) (b:=x105.1) rfl rfl h125)<|lp (.pointer (some ((⟨g88,0,none⟩:Addr).add 1))) (qaf (sz:=1) underlying66 rfl sizeOf3 (by decide) rfl e7)<|lv (iv x74.2.1) (qal (hC.bx (i:=5) rfl) isAgg3 rfl rfl)<|lp (.pointer (some ((⟨g119,0,none⟩:Addr).add 1))) (qaf (sz:=1) underlying66 rfl sizeOf3 (by decide) rfl rfl)<|lv (iv x105.2.1) (qal (hC.bx (i:=0) rfl) isAgg3 rfl rfl) ?_
 obtain ⟨z126,h127,hb⟩:=bd hb
 refine lp (iv z126) (qau (a:=x74.2.1) (b:=x105.2.1) rfl rfl h127)<|lp (.agg #[iv z124,iv z126]) (pu_builda (pv:=[(0,iv z124),(1,iv z126)]) (sz:=1) type88 underlying88 rfl type3 rfl rfl (by simp [Instr.fill,Value.cells]))<|lex.op (hC.alloc (cs:=[iv 0,iv 0]) zeroValue88 rfl) ?_
 rintro _ w129 ⟨g128,rfl,hC,hF,-⟩
 refine lex.sk (hC.seta (i:=0) (ds:=[iv z124,iv z126]) rfl type88 rfl rfl rfl rfl rfl) ?_
 rintro w131 ⟨hC,hF⟩
 refine ln (hK123 _ _ ?_)
 refine Wc.fresh fun E132 hE=>?_
 have e3:=cg hE 3 e3
 have e4:=cg hE 4 e4
 have e5:=cg hE 5 e5
 have e7:=cg hE 7 e7
 have e9:E132 9=pg g119:=cg hE 9 rfl
 have e10:E132 10=pg g128:=cg hE 10 rfl
 have e38:=cg hE 38 e38
 have e39:=cg hE 39 e39
 have e40:=cg hE 40 e40
 have e41:=cg hE 41 e41
 have e45:=cg hE 45 e45
 have e46:=cg hE 46 e46
 have e47:=cg hE 47 e47
 have e48:E132 48=.bool (decide (u<(d.length:Int))):=cg hE 48 rfl
 clear hE
 refine Wc.regionMix [] (frm [] [.mp g56 .pair (.pr si si) o] ([]:List Fact)) (fun _=>rfl) mixed (by decide+kernel) (by decide+kernel) fun w134 hw133=>?_
 replace hC:=hC.step (Fr.qcx hw133)
 have hM:=Fr.refl (fun k=>k∈blocks [.mp g56 .pair (.pr si si) o]) w134
 clear hw133
 have hS:=hC
 have hBf58: ∀g,g<w134.heap.size→some g56=some g→g∈blocks [.mp g56 .pair (.pr si si) o]:=fun g _ hg=>Option.some.inj hg▸mp_in (i:=0) rfl
 have hVf58:g56<w134.heap.size→g56∈blocks [.mp g56 .pair (.pr si si) o]:=fun _=>mp_in (i:=0) rfl
 refine mp (.map (some g56)) (qaa e5)<|mixE.load hM (v:=.agg #[iv z124,iv z126]) (fun _ hF=>qaq (hS.bx2 (i:=0) rfl [5] (by decide) hF) isAgg88 sizeOf88 e10)<|mp (.map (some g56)) (qaa e5)<|mixE.load hM (v:=.agg #[iv z124,iv z126]) (fun _ hF=>qaq (hS.bx2 (i:=0) rfl [5] (by decide) hF) isAgg88 sizeOf88 e10) ?_
 obtain ⟨x136,h137,hb⟩:=bd hb
 obtain ⟨cs135,hY,hR⟩:=hC.mplk (i:=5) (k:=(z124,z126)) rfl (KL.pair underlying88 type3 (by kernel_rfl) sizeOf3 underlying3 isAgg3) underlying87 (zc:=[iv 0,iv 0]) (zx:=((0:Int),(0:Int))) zeroValue90 (⟨[iv 0],[iv 0],rfl,⟨rfl,I64.wr (show I64 0 from by unfold I64; omega)⟩,⟨rfl,I64.wr (show I64 0 from by unfold I64; omega)⟩⟩) false
 rw [Option.some.inj h137] at hR
 obtain ⟨k138,k139,rfl,hr140,hr141⟩:=hR
 obtain ⟨rfl,hr140⟩:=hr140
 obtain ⟨rfl,hr141⟩:=hr141
 refine mixE.soft (v:=.agg #[iv x136.1,iv x136.2]) hM (hY rfl rfl) hM ?_
 clear hY
 refine mp (.pointer (some ((⟨g88,0,none⟩:Addr).add 2))) (qaf (sz:=1) underlying66 rfl sizeOf3 (by decide) rfl e7)<|mixE.load hM (v:=iv x74.2.2) (fun _ hF=>qal (hS.bx2 (i:=6) rfl [5] (by decide) hF) isAgg3 rfl rfl)<|mp (.pointer (some ((⟨g119,0,none⟩:Addr).add 2))) (qaf (sz:=1) underlying66 rfl sizeOf3 (by decide) rfl e9)<|mixE.load hM (v:=iv x105.2.2) (fun _ hF=>qal (hS.bx2 (i:=1) rfl [5] (by decide) hF) isAgg3 rfl rfl) ?_
 obtain ⟨z142,h143,hb⟩:=bd hb
 refine mp (iv z142) (qfx (a:=x74.2.2) (b:=x105.2.2) rfl rfl h143) ?_
 obtain ⟨y144,h145,hb⟩:=bd hb
 refine mixE.cl hM (⟨_,_,qam (vs:=[.agg #[iv x136.1,iv x136.2],iv z142]) call53 rfl rfl rfl,qhw n hC.lt (qbi hr140) (qbi hr141) (qah h143) h145⟩) ?_
 rintro _ w148 ⟨rfl,hr146,hr147,hK⟩
 replace hM:=hM.none hK.fr
 refine ⟨hM,?_⟩
 replace hC:=hC.merge hK
 clear hK
 refine mixE.ssk hM (hC.mpput (i:=5) (k:=(z124,z126)) (cs:=[iv y144.1,iv y144.2]) (v:=(y144.1,y144.2)) rfl (KL.pair underlying88 type3 (by kernel_rfl) sizeOf3 underlying3 isAgg3) (⟨(qah h125),(qah h127)⟩) underlying87 (⟨[iv y144.1],[iv y144.2],rfl,⟨rfl,I64.wr hr146⟩,⟨rfl,I64.wr hr147⟩⟩) rfl rfl rfl) ?_
 rintro w149 ⟨hC,hF⟩
 replace hM:=hM.besideG hVf58 hF
 clear hF
 refine ⟨hM,?_⟩
 refine mixE.nil ?_
 clear hS hM
 refine hK103 _ _<|rg ?_
 obtain ⟨z150,h151,hb⟩:=bd hb
 refine lp (iv z150) (qau (a:=u) (b:=1) e47 rfl h151)<|lp (iv z150) (qaa rfl)<|ln ?_
 obtain rfl:=os hb
 exact hK95 m96' _ _ (Nat.lt_succ_self _) ⟨z150,(gput o (z124,z126) (y144.1,y144.2)),e3,e4,e5,e7,e38,e39,e40,e41,e45,e46,rfl,(qah h151),hC.sE [2,3,4,5,6,7],lN hl1⟩
 replace hb:=tf hq102 hb
 refine Wc.exit rfl ?_
 obtain rfl:=os hb
 obtain rfl:=(lX hl1).symm
 exact hK94 _ _ ⟨u,o,e3,e4,e5,e7,e38,e39,e40,e41,e45,e46,e47,B,hC.sE [0,1,2,3,4,5],hbK1⟩
 clear hb hC hl1
 rintro E153 w152 ⟨u,o,e3,e4,e5,e7,e38,e39,e40,e41,e45,e46,e47,B,hC,hb⟩
 refine hK72 _ _<|rg ?_
 obtain ⟨z154,h155,hb⟩:=bd hb
 refine lp (iv z154) (qau (a:=l) (b:=1) e40 rfl h155)<|lp (iv z154) (qaa rfl)<|ln ?_
 obtain rfl:=os hb
 exact hK64 m65' _ _ (Nat.lt_succ_self _) ⟨z154,o,e3,e4,e5,e38,e39,rfl,(qah h155),hC.sE [0,1,2,3,5],lN hl0⟩
 replace hb:=tf hq71 hb
 refine Wc.exit rfl ?_
 obtain rfl:=os hb
 obtain rfl:=(lX hl0).symm
 exact hK63 _ _ ⟨l,x,e4,e5,z,hC.sE [2,3],hbK0⟩
 clear hb hC hl0
 rintro E157 w156 ⟨l,x,e4,e5,z,hC,hb⟩
 subst hf62
 refine hK59 _ _<|Wc.seq fun _ hK158=>rg<|lp _ (qaa e5) ?_
 replace hC:Cx (fun _=>False) O0 w w156 ([.mp g56 .pair (.pr si si) x]++[.box g10 37 [.bool false,.slice none 0 0]]):=hC.sE [1,0]
 obtain ⟨y159,h160,hb⟩:=bd hb
 refine lex.cl (⟨_,_,qam (vs:=[.map (some g56)]) call54 rfl rfl rfl,bivariate_gather_ok n hC.lt hC.give h160⟩) ?_
 rintro _ w165 ⟨A161,m162,c163,rfl,hK⟩
 replace hC:=hC.back hK
 clear hK
 obtain ⟨rfl,hl166,hc167⟩:=(hC.ow (i:=0) rfl).qae
 refine lex.sk (hC.seta (i:=1) (ds:=[.bool y159.1,.slice A161 y159.2.length c163]) rfl type37 rfl rfl rfl e4 rfl) ?_
 rintro w168 ⟨hC,hF⟩
 refine ln (hK158 _ _ ?_)
 obtain rfl:=os hb
 refine Wc.ret (hKR _ _ ?_)
 refine ⟨_,res1 results42 ⟨_,e4,qai (hC.bx (i:=1) rfl) isAgg37 sizeOf37⟩,_,rfl,A161,y159.2.length,c163,rfl,hC.sE [0]⟩

theorem homfly_circles_ok (n:Nat) {w:World} {O0:List Nat} (hO: ∀k∈O0,k<w.heap.size) {l:Int} (s:I64 l) {r:Bool×(List (Int×(Int×Int)))} (hb:F.qgz n l=some r):
    Calls prog 25 #[iv l] w fun e w'=> ∃v,e=.returned v∧∃(A1:Option Addr) (m1 c1:Nat),v=.agg #[.bool r.1,.slice A1 m1 c1]∧Cx (fun _=>False) O0 w w' [.own 66 (.pr si (.pr si si)) (.slice A1 m1 c1) r.2]:=by
 unfold F.qgz at hb
 have hC:=Cx.start hO
 clear hO
 refine qao func25 rfl (by rw [ntmps25]; exact nb rfl) fun KR hKR=>?_
 refine Wc.seq fun _ hK1=>rg<|lex.op (hC.alloc (cs:=[.bool false,.slice none 0 0]) zeroValue37 rfl) ?_
 rintro _ w3 ⟨g2,rfl,hC,hF,-⟩
 refine ln (hK1 _ _ ?_)
 refine Wc.seq fun _ hK5=>rg ?_
 obtain ⟨y6,h7,hb⟩:=bd hb
 refine lex.cl (⟨_,_,qam (vs:=[iv 1,iv (-1),iv (-1)]) call41 rfl rfl rfl,qhp n hC.lt (show I64 1 from by unfold I64; omega) (show I64 (-1) from by unfold I64; omega) (show I64 (-1) from by unfold I64; omega) h7⟩) ?_
 rintro _ w12 ⟨A8,m9,c10,rfl,hK⟩
 replace hC:=hC.merge hK
 clear hK
 obtain ⟨rfl,hl13,hc14⟩:=(hC.ow (i:=0) rfl).qae
 obtain ⟨y15,h16,hb⟩:=bd hb
 refine lex.cl (⟨_,_,qam (vs:=[iv 1,iv 1,iv (-1)]) call41 rfl rfl rfl,qhp n hC.lt (show I64 1 from by unfold I64; omega) (show I64 1 from by unfold I64; omega) (show I64 (-1) from by unfold I64; omega) h16⟩) ?_
 rintro _ w21 ⟨A17,m18,c19,rfl,hK⟩
 replace hC:=hC.merge hK
 clear hK
 obtain ⟨rfl,hl22,hc23⟩:=(hC.ow (i:=0) rfl).qae
 obtain ⟨y24,h25,hb⟩:=bd hb
 refine lex.cl (⟨_,_,qam (vs:=[.agg #[.bool y6.1,.slice A8 y6.2.length c10],.agg #[.bool y15.1,.slice A17 y15.2.length c19]]) call23 rfl rfl rfl,qht n (hC.lentLt [.slice A8 y6.2.length c10,.slice A17 y15.2.length c19]) ((hC.ow (i:=1) rfl).lend (vs:=[.slice A8 y6.2.length c10,.slice A17 y15.2.length c19]) (by simp)) ((hC.ow (i:=0) rfl).lend (vs:=[.slice A8 y6.2.length c10,.slice A17 y15.2.length c19]) (by simp)) h25⟩) ?_
 rintro _ w30 ⟨A26,m27,c28,rfl,hK⟩
 replace hC:=hC.mergeF hK rfl
 clear hK
 obtain ⟨rfl,hl31,hc32⟩:=(hC.ow (i:=0) rfl).qae
 refine lex.op (hC.alloc (cs:=[.bool false,.slice none 0 0]) zeroValue37 rfl) ?_
 rintro _ w34 ⟨g33,rfl,hC,hF,-⟩
 refine lex.sk (hC.seta (i:=0) (ds:=[.bool y24.1,.slice A26 y24.2.length c28]) rfl type37 rfl rfl rfl rfl rfl) ?_
 rintro w36 ⟨hC,hF⟩
 refine ln (hK5 _ _ ?_)
 refine Wc.seq fun _ hK37=>rg ?_
 obtain ⟨y38,h39,hb⟩:=bd hb
 refine lex.cl (⟨_,_,qam (vs:=[iv 1,iv 0,iv 0]) call41 rfl rfl rfl,qhp n hC.lt (show I64 1 from by unfold I64; omega) (show I64 0 from by unfold I64; omega) (show I64 0 from by unfold I64; omega) h39⟩) ?_
 rintro _ w44 ⟨A40,m41,c42,rfl,hK⟩
 replace hC:=hC.merge hK
 clear hK
 obtain ⟨rfl,hl45,hc46⟩:=(hC.ow (i:=0) rfl).qae
 refine lex.op (hC.alloc (cs:=[.bool false,.slice none 0 0]) zeroValue37 rfl) ?_
 rintro _ w48 ⟨g47,rfl,hC,hF,-⟩
 refine lex.sk (hC.seta (i:=0) (ds:=[.bool y38.1,.slice A40 y38.2.length c42]) rfl type37 rfl rfl rfl rfl rfl) ?_
 rintro w50 ⟨hC,hF⟩
 refine ln (hK37 _ _ ?_)
 refine Wc.seq fun _ hK51=>?_
 refine Wc.seq fun _ hK52=>rg<|lp (iv l) (qaa rfl) ?_
 obtain ⟨z53,h54,hb⟩:=bd hb
 refine lp (iv z53) (pu_subc (a:=l) (b:=1) rfl rfl h54)<|lp (iv 0) (qaa rfl)<|ln (hK52 _ _ ?_)
 refine Wc.fresh fun E55 hE=>?_
 have e2:E55 2=pg g2:=cg hE 2 rfl
 have e3:E55 3=pg g33:=cg hE 3 rfl
 have e4:E55 4=pg g47:=cg hE 4 rfl
 have e10:E55 10=iv z53:=cg hE 10 rfl
 have e11:E55 11=iv 0:=cg hE 11 rfl
 clear hE
 obtain ⟨o56,hl0,f56,hf56,hb⟩:=bn hb
 refine Wc.cut (fun E wv=> ∃(j:Int) (g:Bool) (f:List (Int×(Int×Int))) (c:Option Addr) (h d:Nat),E 2=pg g2∧E 4=pg g47∧I64 j∧Cx (fun _=>False) O0 w wv [.box g2 37 [.bool false,.slice none 0 0],.box g47 37 [.bool g,.slice c h d],.own 66 (.pr si (.pr si si)) (.slice c h d) f]∧f56 (j,g,f)=some r) (fun _ hK57=>?_) ?_
 refine Wc.block ?_
 refine Wc.loop (fun m E wv=> ∃(j:Int) (g:Bool) (f:List (Int×(Int×Int))) (c:Option Addr) (h d:Nat),E 2=pg g2∧E 3=pg g33∧E 4=pg g47∧E 10=iv z53∧E 11=iv j∧I64 j∧Cx (fun _=>False) O0 w wv [.box g2 37 [.bool false,.slice none 0 0],.box g33 37 [.bool y24.1,.slice A26 y24.2.length c28],.own 66 (.pr si (.pr si si)) (.slice A26 y24.2.length c28) y24.2,.box g47 37 [.bool g,.slice c h d],.own 66 (.pr si (.pr si si)) (.slice c h d) f]∧loopN m (F.qex n y24 z53) (j,g,f)=some o56) n ⟨0,y38.1,y38.2,A40,y38.2.length,c42,e2,e3,e4,e10,e11,(show I64 0 from by unfold I64; omega),hC.sE [6,2,3,0,1],hl0⟩ ?_
 have hbK0:=hb
 clear hb hC hl0
 rintro m59 E61 w60 ⟨j,g,f,c,h,d,e2,e3,e4,e10,e11,o,hC,hl0⟩ K58 hK58
 obtain ⟨m59',o62,rfl,hb,hl0⟩:=qax hl0
 unfold F.qex at hb
 obtain ⟨rfl,p,q⟩:=(hC.ow (i:=4) rfl).qae
 refine Wc.seq fun _ hK63=>rg<|lp _ (qbj e11 e10)<|ln (hK63 _ _ ?_)
 refine Wc.seq fun _ hK64=>?_
 refine Wc.cond (t:=(decide (j<z53))) (rfl) (fun hq65=>?_) (fun hq65=>?_)
 replace hb:=tt hq65 hb
 refine Wc.skip (hK64 _ _ ?_)
 refine Wc.seq fun _ hK66=>?_
 refine Wc.block<|rg<|lv (.agg #[.bool g,.slice c f.length d]) (qaq (hC.bx (i:=3) rfl) isAgg37 sizeOf37 e4)<|lv (.agg #[.bool y24.1,.slice A26 y24.2.length c28]) (qaq (hC.bx (i:=1) rfl) isAgg37 sizeOf37 e3) ?_
 obtain ⟨y67,h68,hb⟩:=bd hb
 refine lex.cl (⟨_,_,qam (vs:=[.agg #[.bool g,.slice c f.length d],.agg #[.bool y24.1,.slice A26 y24.2.length c28]]) call42 rfl rfl rfl,bivariate_Poly_Mul_ok n (hC.lentLt [.slice c f.length d,.slice A26 y24.2.length c28]) ((hC.ow (i:=4) rfl).lend (vs:=[.slice c f.length d,.slice A26 y24.2.length c28]) (by simp)) ((hC.ow (i:=2) rfl).lend (vs:=[.slice c f.length d,.slice A26 y24.2.length c28]) (by simp)) h68⟩) ?_
 rintro _ w73 ⟨A69,m70,c71,rfl,hK⟩
 replace hC:=hC.mergeF hK rfl
 clear hK
 obtain ⟨rfl,hl74,hc75⟩:=(hC.ow (i:=0) rfl).qae
 refine lex.sk (hC.seta (i:=4) (ds:=[.bool y67.1,.slice A69 y67.2.length c71]) rfl type37 rfl rfl rfl e4 rfl) ?_
 rintro w76 ⟨hC,hF⟩
 refine ln (hK66 _ _ ?_)
 refine rg ?_
 obtain ⟨z77,h78,hb⟩:=bd hb
 refine lp (iv z77) (qau (a:=j) (b:=1) e11 rfl h78)<|lp (iv z77) (qaa rfl)<|ln ?_
 obtain rfl:=os hb
 exact hK58 m59' _ _ (Nat.lt_succ_self _) ⟨z77,y67.1,y67.2,A69,y67.2.length,c71,e2,e3,e4,e10,rfl,(qah h78),hC.sE [1,2,3,4,0],lN hl0⟩
 replace hb:=tf hq65 hb
 refine Wc.exit rfl ?_
 obtain rfl:=os hb
 obtain rfl:=(lX hl0).symm
 exact hK57 _ _ ⟨j,g,f,c,f.length,d,e2,e4,o,hC.sE [0,3,4],hbK0⟩
 clear hb hC hl0
 rintro E80 w79 ⟨j,g,f,c,h,d,e2,e4,o,hC,hb⟩
 subst hf56
 obtain ⟨rfl,p,q⟩:=(hC.ow (i:=2) rfl).qae
 refine hK51 _ _<|Wc.seq fun _ hK81=>rg<|lv (.agg #[.bool g,.slice c f.length d]) (qaq (hC.bx (i:=1) rfl) isAgg37 sizeOf37 e4)<|lex.sk (hC.seta (i:=0) (ds:=[.bool g,.slice c f.length d]) rfl type37 rfl rfl rfl e2 rfl) ?_
 rintro w82 ⟨hC,hF⟩
 refine ln (hK81 _ _ ?_)
 obtain rfl:=os hb
 refine Wc.ret (hKR _ _ ?_)
 refine ⟨_,res1 results25 ⟨_,e2,qai (hC.bx (i:=0) rfl) isAgg37 sizeOf37⟩,_,rfl,c,f.length,d,rfl,hC.sE [2]⟩

theorem homfly_Poly_c1_ok (n:Nat): ∀{w:World} {O0:List Nat} (hO: ∀k∈O0,k<w.heap.size) {z:Option Addr} {B p:Nat} {s:List Int} (C:Rep O0 w (.sl si) [.slice z B p] s) {u:Option Addr} {D x:Nat} {y:List Int} (G:Rep O0 w (.sl si) [.slice u D x] y) {A:Int} (H:I64 A) {m:Nat} {l:Bool} {o:Nat} {c:Nat} {d:Nat} {f:List (Int×(Bool×(List (Int×(Int×Int)))))} (hio:Tk O0 w [.mp d .int (.pr .bool (.sl (.pr si (.pr si si)))) f,.box m 4 [.bool l],.box o 57 [.func (.func 19) #[] #[pg m,pg o,pg c]],.box c 56 [.map (some d)]]) {r:Bool×(List (Int×(Int×Int)))×(List (Int×(Bool×(List (Int×(Int×Int))))))×Bool} (hb:F.qde n s y A l f=some r),
    Calls prog 19 #[.agg #[.slice z B p,.slice u D x,iv A],pg m,pg o,pg c] w fun e w'=> ∃v,e=.returned v∧∃(A1:Option Addr) (m1 c1:Nat),v=.agg #[.bool r.1,.slice A1 m1 c1]∧Cx (fun k=>k∈blocks [.mp d .int (.pr .bool (.sl (.pr si (.pr si si)))) f,.box m 4 [.bool l],.box o 57 [.func (.func 19) #[] #[pg m,pg o,pg c]],.box c 56 [.map (some d)]]) O0 w w' [.ro (.sl (.pr si (.pr si si))) [.slice A1 m1 c1] r.2.1,.mp d .int (.pr .bool (.sl (.pr si (.pr si si)))) r.2.2.1,.box m 4 [.bool r.2.2.2],.box o 57 [.func (.func 19) #[] #[pg m,pg o,pg c]],.box c 56 [.map (some d)]]:=by
  induction n with
  | zero=>
    intro w O0 hO z B p s C u D x y G A H m l o c d f hio r hb
    rw [F.qde] at hb
    cases hb
  | succ n ih=>
    intro w O0 hO z B p s C u D x y G A H m l o c d f hio r hb
    rw [F.qde] at hb
    have hC:=Cx.startTk hO hio
    have hsub:=hio.2.2
    replace hC:=hC.argTk (by first | exact hsub | exact fun k hk=>hsub k (by simpa [blocks,Fact.blk] using hk)) C
    replace hC:=hC.argTk (by first | exact hsub | exact fun k hk=>hsub k (by simpa [blocks,Fact.blk] using hk)) G
    clear hO
    obtain ⟨rfl,J,K⟩:=C.qae
    obtain ⟨rfl,L,M⟩:=G.qae
    clear hio hsub
    obtain ⟨I,hI,hC⟩: ∃I:Nat→Prop,I=(fun k=>k∈blocks [.mp d .int (.pr .bool (.sl (.pr si (.pr si si)))) f,.box m 4 [.bool l],.box o 57 [.func (.func 19) #[] #[pg m,pg o,pg c]],.box c 56 [.map (some d)]])∧Cx I O0 w w ([.ro (.sl si) [.slice u y.length x] y,.ro (.sl si) [.slice z s.length p] s,.mp d .int (.pr .bool (.sl (.pr si (.pr si si)))) f,.box m 4 [.bool l],.box o 57 [.func (.func 19) #[] #[pg m,pg o,pg c]],.box c 56 [.map (some d)]]):=⟨_,rfl,hC⟩
    refine qao func19 rfl (by rw [ntmps19]; exact nb rfl) fun KR hKR=>?_
    refine Wc.seq fun _ hK7=>?_
    refine rg ?_
    refine lex.op (hC.box (cs:=[.slice z s.length p,.slice u y.length x,iv A]) rfl rfl) ?_
    rintro _ w9 ⟨g8,rfl,hC,hF,hG⟩
    clear hG
    refine lex.op (hC.alloc (cs:=[.bool false,.slice none 0 0]) zeroValue37 rfl) ?_
    rintro _ w12 ⟨g11,rfl,hC,hF,hG⟩
    clear hG
    refine ln ?_
    refine hK7 _ _ ?_
    refine Wc.seq fun _ hK14=>?_
    refine Wc.seq fun _ hK15=>?_
    refine rg ?_
    refine lv (.bool l) (qaw isAgg4 rfl ((hC.bx (i:=5) rfl).cell (j:=0) rfl)) ?_
    refine lp (.bool (!l)) (qbt (q:=l) rfl) ?_
    refine ln ?_
    refine hK15 _ _ ?_
    refine Wc.cond (t:=(!l)) (rfl) (fun hq16=>?_) (fun hq16=>?_)
    · replace hb:=tt hq16 hb
      refine Wc.seq fun _ hK17=>?_
      refine rg ?_
      refine lp (.agg #[.bool false,.slice none 0 0]) (qat (places:=[(0,1),(1,1)]) (pv:=[]) type37 underlying37 rfl (qag type4 (qag type35 qbb rfl rfl) rfl rfl) rfl (by simp [Instr.fill,Value.cells])) ?_
      refine lex.sk (hC.seta (i:=0) (ds:=[.bool false,.slice none 0 0]) rfl type37 rfl rfl rfl rfl rfl) ?_
      rintro w18 ⟨hC,hF⟩
      refine ln ?_
      refine hK17 _ _ ?_
      replace hC:=hC.ro (show Rep _ _ (.sl (.pr si (.pr si si))) [.slice none 0 0] [] from ⟨none,0,rfl,Nat.le_refl _,by omega,fun h=>absurd h (by simp)⟩)
      obtain rfl:=os hb
      subst hI
      refine Wc.ret ?_
      refine hKR _ _ ?_
      refine ⟨_,res1 results19 ⟨_,rfl,qai (hC.bx (i:=1) rfl) isAgg37 sizeOf37⟩,_,rfl,none,0,0,rfl,hC.sE [0,5,6,7,8]⟩
    · replace hb:=tf hq16 hb
      refine Wc.skip ?_
      refine hK14 _ _ ?_
      refine Wc.seq fun _ hK20=>?_
      refine rg ?_
      refine lv (.agg #[.slice z s.length p,.slice u y.length x,iv A]) (qaq (hC.bx (i:=1) rfl) isAgg32 sizeOf32 rfl) ?_
      obtain ⟨y21,h22,hb⟩:=bd hb
      refine lex.cl (⟨_,_,qam (vs:=[.agg #[.slice z s.length p,.slice u y.length x,iv A]]) call20 rfl rfl rfl,conway_Resolve_ok n hC.lt (hC.rd (i:=3) rfl) (hC.rd (i:=2) rfl) H h22⟩) ?_
      rintro _ w43 ⟨A23,m24,c25,A27,m28,c29,A32,m33,c34,A36,m37,c38,rfl,hr31,hr40,hr41,hr42,hK⟩
      replace hC:=hC.merge hK
      clear hK
      obtain ⟨rfl,hl44,hc45⟩:=(hC.ow (i:=0) rfl).qae
      obtain ⟨rfl,hl46,hc47⟩:=(hC.ow (i:=1) rfl).qae
      obtain ⟨rfl,hl48,hc49⟩:=(hC.ow (i:=2) rfl).qae
      obtain ⟨rfl,hl50,hc51⟩:=(hC.ow (i:=3) rfl).qae
      refine lp (.tuple #[.agg #[.slice A23 y21.1.length c25,.slice A27 y21.2.1.length c29,iv y21.2.2.1],.agg #[.slice A32 y21.2.2.2.1.length c34,.slice A36 y21.2.2.2.2.1.length c38,iv y21.2.2.2.2.2.1],iv y21.2.2.2.2.2.2.1,iv y21.2.2.2.2.2.2.2]) (qaa rfl) ?_
      refine lp (.agg #[.slice A23 y21.1.length c25,.slice A27 y21.2.1.length c29,iv y21.2.2.1]) (qav rfl rfl) ?_
      refine lp (.agg #[.slice A32 y21.2.2.2.1.length c34,.slice A36 y21.2.2.2.2.1.length c38,iv y21.2.2.2.2.2.1]) (qav rfl rfl) ?_
      refine lp (iv y21.2.2.2.2.2.2.1) (qav rfl rfl) ?_
      refine lp (iv y21.2.2.2.2.2.2.2) (qav rfl rfl) ?_
      refine lex.op (hC.alloc (cs:=[.slice none 0 0,.slice none 0 0,iv 0]) zeroValue32 rfl) ?_
      rintro _ w53 ⟨g52,rfl,hC,hF,hG⟩
      clear hG
      refine lex.op (hC.alloc (cs:=[.slice none 0 0,.slice none 0 0,iv 0]) zeroValue32 rfl) ?_
      rintro _ w56 ⟨g55,rfl,hC,hF,hG⟩
      clear hG
      refine lex.sk (hC.seta (i:=1) (ds:=[.slice A23 y21.1.length c25,.slice A27 y21.2.1.length c29,iv y21.2.2.1]) rfl type32 rfl rfl rfl rfl rfl) ?_
      rintro w58 ⟨hC,hF⟩
      refine lex.sk (hC.seta (i:=0) (ds:=[.slice A32 y21.2.2.2.1.length c34,.slice A36 y21.2.2.2.2.1.length c38,iv y21.2.2.2.2.2.1]) rfl type32 rfl rfl rfl rfl rfl) ?_
      rintro w59 ⟨hC,hF⟩
      refine lp (iv y21.2.2.2.2.2.2.1) (qab rfl) ?_
      refine lp (iv y21.2.2.2.2.2.2.2) (qab rfl) ?_
      refine ln ?_
      refine hK20 _ _ ?_
      refine Wc.fresh fun E60 hE=>?_
      have e1:E60 1=pg m:=cg hE 1 rfl
      have e2:E60 2=pg o:=cg hE 2 rfl
      have e3:E60 3=pg c:=cg hE 3 rfl
      have e4:E60 4=pg g8:=cg hE 4 rfl
      have e5:E60 5=pg g11:=cg hE 5 rfl
      have e6:E60 6=pg g52:=cg hE 6 rfl
      have e7:E60 7=pg g55:=cg hE 7 rfl
      have e8:E60 8=iv y21.2.2.2.2.2.2.1:=cg hE 8 rfl
      have e9:E60 9=iv y21.2.2.2.2.2.2.2:=cg hE 9 rfl
      clear hE
      refine Wc.seq fun _ hK61=>?_
      refine Wc.seq fun _ hK62=>?_
      refine rg ?_
      refine lp _ (qaa e9) ?_
      refine ln ?_
      refine hK62 _ _ ?_
      refine Wc.block ?_
      refine Wc.seq fun _ hK63=>?_
      refine rg ?_
      refine lp (.bool (decide (y21.2.2.2.2.2.2.2=0))) (qbl (k:=.i64) (a:=y21.2.2.2.2.2.2.2) (b:=0) rfl rfl) ?_
      refine lp (.bool (decide (y21.2.2.2.2.2.2.2=0))) (qab rfl) ?_
      refine ln ?_
      refine hK63 _ _ ?_
      refine Wc.cond (t:=(decide (y21.2.2.2.2.2.2.2=0))) (rfl) (fun hq64=>?_) (fun hq64=>?_)
      · replace hb:=tt hq64 hb
        refine Wc.seq fun _ hK65=>?_
        refine rg ?_
        refine lp (.pointer (some ((⟨g8,0,none⟩:Addr).add 0))) (qaf (sz:=1) underlying32 rfl sizeOf22 (by decide) rfl e4) ?_
        refine lv (.slice z s.length p) (qal (hC.bx (i:=7) rfl) isAgg22 rfl rfl) ?_
        refine lp _ (qaa e8) ?_
        obtain ⟨x66,h67,hb⟩:=bd hb
        obtain ⟨ad68,cs69,hA,hc70,hr71⟩:=hC.elr (i:=9) rfl (qad h67).2
        subst hA
        refine lp (.pointer (some (ad68.add (y21.2.2.2.2.2.2.1.toNat*1)))) (qar (a:=y21.2.2.2.2.2.2.1) underlying22 sizeOf3 rfl rfl (qad h67).1) ?_
        obtain ⟨rfl,hr71'⟩:=hr71
        refine lv (iv x66) (qaw isAgg3 rfl (hc70 0 _ rfl)) ?_
        refine lp (iv x66) (qab rfl) ?_
        refine ln ?_
        refine hK65 _ _ ?_
        refine Wc.seq fun _ hK72=>?_
        refine rg ?_
        refine lv (.func (.func 19) #[] #[pg m,pg o,pg c]) (qaw isAgg57 e2 ((hC.bx (i:=12) rfl).cell (j:=0) rfl)) ?_
        refine lv (.agg #[.slice A32 y21.2.2.2.1.length c34,.slice A36 y21.2.2.2.2.1.length c38,iv y21.2.2.2.2.2.1]) (qaq (hC.bx (i:=0) rfl) isAgg32 sizeOf32 e7) ?_
        replace hC:=hC.freeze (i:=4) rfl (hC.qgo hI (i:=4) rfl (List.forall_mem_cons.2 ⟨fun g hg=>⟨10,_,rfl,by decide,hg⟩,List.forall_mem_cons.2 ⟨fun g hg=>⟨11,_,rfl,by decide,hg⟩,List.forall_mem_cons.2 ⟨fun g hg=>⟨12,_,rfl,by decide,hg⟩,List.forall_mem_cons.2 ⟨fun g hg=>⟨13,_,rfl,by decide,hg⟩,fun _ h=>absurd h List.not_mem_nil⟩⟩⟩⟩))
        replace hC:=hC.freeze (i:=5) rfl (hC.qgo hI (i:=5) rfl (List.forall_mem_cons.2 ⟨fun g hg=>⟨10,_,rfl,by decide,hg⟩,List.forall_mem_cons.2 ⟨fun g hg=>⟨11,_,rfl,by decide,hg⟩,List.forall_mem_cons.2 ⟨fun g hg=>⟨12,_,rfl,by decide,hg⟩,List.forall_mem_cons.2 ⟨fun g hg=>⟨13,_,rfl,by decide,hg⟩,fun _ h=>absurd h List.not_mem_nil⟩⟩⟩⟩))
        replace hC:Cx I O0 w w59 ([.mp d .int (.pr .bool (.sl (.pr si (.pr si si)))) f,.box m 4 [.bool l],.box o 57 [.func (.func 19) #[] #[pg m,pg o,pg c]],.box c 56 [.map (some d)]]++[.box g55 32 [.slice A32 y21.2.2.2.1.length c34,.slice A36 y21.2.2.2.2.1.length c38,iv y21.2.2.2.2.2.1],.box g52 32 [.slice A23 y21.1.length c25,.slice A27 y21.2.1.length c29,iv y21.2.2.1],.own 3 si (.slice A23 y21.1.length c25) y21.1,.own 3 si (.slice A27 y21.2.1.length c29) y21.2.1,.ro (.sl si) [.slice A32 y21.2.2.2.1.length c34] y21.2.2.2.1,.ro (.sl si) [.slice A36 y21.2.2.2.2.1.length c38] y21.2.2.2.2.1,.box g11 37 [.bool false,.slice none 0 0],.box g8 32 [.slice (some ad68) s.length p,.slice u y.length x,iv A],.ro (.sl si) [.slice u y.length x] y,.ro (.sl si) [.slice (some ad68) s.length p] s]):=hC.sE [10,11,12,13,0,1,2,3,4,5,6,7,8,9]
        obtain ⟨y73,h74,hb⟩:=bd hb
        refine lex.cl (⟨_,_,qco (vs:=[.agg #[.slice A32 y21.2.2.2.1.length c34,.slice A36 y21.2.2.2.2.1.length c38,iv y21.2.2.2.2.2.1],pg m,pg o,pg c]) (ca:=#[pg m,pg o,pg c]) call19 rfl rfl rfl,ih hC.lt (hC.rd (i:=8) rfl) (hC.rd (i:=9) rfl) hr40 hC.give h74⟩) ?_
        rintro _ w79 ⟨A75,m76,c77,rfl,hK⟩
        replace hC:=hC.back hK
        clear hK
        obtain ⟨rfl,hl80,hc81⟩:=(hC.rd (i:=0) rfl).qae
        refine lp (iv x66) (qaa rfl) ?_
        obtain ⟨y82,h83,hb⟩:=bd hb
        refine lex.cl (⟨_,_,qam (vs:=[.agg #[.bool y73.1,.slice A75 y73.2.1.length c77],iv x66,iv 1]) call21 rfl rfl rfl,qho n hC.lt (hC.rd (i:=0) rfl) (qbi hr71') (show I64 1 from by unfold I64; omega) h83⟩) ?_
        rintro _ w88 ⟨A84,m85,c86,rfl,hK⟩
        replace hC:=hC.merge hK
        clear hK
        obtain ⟨rfl,hl89,hc90⟩:=(hC.rd (i:=0) rfl).qae
        refine lex.op (hC.alloc (cs:=[.bool false,.slice none 0 0]) zeroValue37 rfl) ?_
        rintro _ w92 ⟨g91,rfl,hC,hF,hG⟩
        clear hG
        refine lex.sk (hC.seta (i:=0) (ds:=[.bool y82.1,.slice A84 y82.2.length c86]) rfl type37 rfl rfl rfl rfl rfl) ?_
        rintro w94 ⟨hC,hF⟩
        refine ln ?_
        refine hK72 _ _ ?_
        refine Wc.fresh fun E95 hE=>?_
        have e1:=cg hE 1 e1
        have e2:=cg hE 2 e2
        have e5:=cg hE 5 e5
        have e6:=cg hE 6 e6
        have e10:E95 10=iv x66:=cg hE 10 rfl
        have e11:E95 11=pg g91:=cg hE 11 rfl
        clear hE
        refine Wc.seq fun _ hK96=>?_
        refine rg ?_
        refine lv (.func (.func 19) #[] #[pg m,pg o,pg c]) (qaw isAgg57 e2 ((hC.bx (i:=5) rfl).cell (j:=0) rfl)) ?_
        refine lv (.agg #[.slice A23 y21.1.length c25,.slice A27 y21.2.1.length c29,iv y21.2.2.1]) (qaq (hC.bx (i:=8) rfl) isAgg32 sizeOf32 e6) ?_
        replace hC:=hC.freeze (i:=9) rfl (hC.qgo hI (i:=9) rfl (List.forall_mem_cons.2 ⟨fun g hg=>⟨3,_,rfl,by decide,hg⟩,List.forall_mem_cons.2 ⟨fun g hg=>⟨4,_,rfl,by decide,hg⟩,List.forall_mem_cons.2 ⟨fun g hg=>⟨5,_,rfl,by decide,hg⟩,List.forall_mem_cons.2 ⟨fun g hg=>⟨6,_,rfl,by decide,hg⟩,fun _ h=>absurd h List.not_mem_nil⟩⟩⟩⟩))
        replace hC:=hC.freeze (i:=10) rfl (hC.qgo hI (i:=10) rfl (List.forall_mem_cons.2 ⟨fun g hg=>⟨3,_,rfl,by decide,hg⟩,List.forall_mem_cons.2 ⟨fun g hg=>⟨4,_,rfl,by decide,hg⟩,List.forall_mem_cons.2 ⟨fun g hg=>⟨5,_,rfl,by decide,hg⟩,List.forall_mem_cons.2 ⟨fun g hg=>⟨6,_,rfl,by decide,hg⟩,fun _ h=>absurd h List.not_mem_nil⟩⟩⟩⟩))
        replace hC:Cx I O0 w w94 ([.mp d .int (.pr .bool (.sl (.pr si (.pr si si)))) y73.2.2.1,.box m 4 [.bool y73.2.2.2],.box o 57 [.func (.func 19) #[] #[pg m,pg o,pg c]],.box c 56 [.map (some d)]]++[.box g91 37 [.bool y82.1,.slice A84 y82.2.length c86],.ro (.sl (.pr si (.pr si si))) [.slice A84 y82.2.length c86] y82.2,.ro (.sl (.pr si (.pr si si))) [.slice A75 y73.2.1.length c77] y73.2.1,.box g55 32 [.slice A32 y21.2.2.2.1.length c34,.slice A36 y21.2.2.2.2.1.length c38,iv y21.2.2.2.2.2.1],.box g52 32 [.slice A23 y21.1.length c25,.slice A27 y21.2.1.length c29,iv y21.2.2.1],.ro (.sl si) [.slice A23 y21.1.length c25] y21.1,.ro (.sl si) [.slice A27 y21.2.1.length c29] y21.2.1,.ro (.sl si) [.slice A32 y21.2.2.2.1.length c34] y21.2.2.2.1,.ro (.sl si) [.slice A36 y21.2.2.2.2.1.length c38] y21.2.2.2.2.1,.box g11 37 [.bool false,.slice none 0 0],.box g8 32 [.slice (some ad68) s.length p,.slice u y.length x,iv A],.ro (.sl si) [.slice u y.length x] y,.ro (.sl si) [.slice (some ad68) s.length p] s]):=hC.sE [3,4,5,6,0,1,2,7,8,9,10,11,12,13,14,15,16]
        obtain ⟨y97,h98,hb⟩:=bd hb
        refine lex.cl (⟨_,_,qco (vs:=[.agg #[.slice A23 y21.1.length c25,.slice A27 y21.2.1.length c29,iv y21.2.2.1],pg m,pg o,pg c]) (ca:=#[pg m,pg o,pg c]) call19 rfl rfl rfl,ih hC.lt (hC.rd (i:=9) rfl) (hC.rd (i:=10) rfl) hr31 hC.give h98⟩) ?_
        rintro _ w103 ⟨A99,m100,c101,rfl,hK⟩
        replace hC:=hC.back hK
        clear hK
        obtain ⟨rfl,hl104,hc105⟩:=(hC.rd (i:=0) rfl).qae
        refine lp _ (qaa e10) ?_
        obtain ⟨z106,h107,hb⟩:=bd hb
        refine lp (iv z106) (qfx (a:=2) (b:=x66) rfl rfl h107) ?_
        obtain ⟨y108,h109,hb⟩:=bd hb
        refine lex.cl (⟨_,_,qam (vs:=[.agg #[.bool y97.1,.slice A99 y97.2.1.length c101],iv z106,iv 0]) call21 rfl rfl rfl,qho n hC.lt (hC.rd (i:=0) rfl) (qah h107) (show I64 0 from by unfold I64; omega) h109⟩) ?_
        rintro _ w114 ⟨A110,m111,c112,rfl,hK⟩
        replace hC:=hC.merge hK
        clear hK
        obtain ⟨rfl,hl115,hc116⟩:=(hC.rd (i:=0) rfl).qae
        refine lex.op (hC.alloc (cs:=[.bool false,.slice none 0 0]) zeroValue37 rfl) ?_
        rintro _ w118 ⟨g117,rfl,hC,hF,hG⟩
        clear hG
        refine lex.sk (hC.seta (i:=0) (ds:=[.bool y108.1,.slice A110 y108.2.length c112]) rfl type37 rfl rfl rfl rfl rfl) ?_
        rintro w120 ⟨hC,hF⟩
        refine ln ?_
        refine hK96 _ _ ?_
        refine Wc.seq fun _ hK121=>?_
        refine Wc.seq fun _ hK122=>?_
        refine rg ?_
        refine lp _ (qaa e10) ?_
        refine lp (.bool (decide (0<x66))) (qfq (k:=.i64) (a:=x66) (b:=0) rfl rfl) ?_
        refine ln ?_
        refine hK122 _ _ ?_
        refine Wc.cond (t:=(decide (0<x66))) (rfl) (fun hq123=>?_) (fun hq123=>?_)
        · replace hb:=tt hq123 hb
          refine rg ?_
          refine lv (.agg #[.bool y108.1,.slice A110 y108.2.length c112]) (qaq (hC.bx (i:=0) rfl) isAgg37 sizeOf37 rfl) ?_
          refine lv (.agg #[.bool y82.1,.slice A84 y82.2.length c86]) (qaq (hC.bx (i:=7) rfl) isAgg37 sizeOf37 e11) ?_
          obtain ⟨y124,h125,hb⟩:=bd hb
          refine lex.cl (⟨_,_,qam (vs:=[.agg #[.bool y108.1,.slice A110 y108.2.length c112],.agg #[.bool y82.1,.slice A84 y82.2.length c86]]) call22 rfl rfl rfl,bivariate_Poly_Add_ok n hC.lt (hC.rd (i:=1) rfl) (hC.rd (i:=8) rfl) h125⟩) ?_
          rintro _ w130 ⟨A126,m127,c128,rfl,hK⟩
          replace hC:=hC.merge hK
          clear hK
          obtain ⟨rfl,hl131,hc132⟩:=(hC.ow (i:=0) rfl).qae
          refine lex.sk (hC.seta (i:=1) (ds:=[.bool y124.1,.slice A126 y124.2.length c128]) rfl type37 rfl rfl rfl rfl rfl) ?_
          rintro w133 ⟨hC,hF⟩
          refine ln ?_
          refine hK121 _ _ ?_
          refine Wc.fresh fun E134 hE=>?_
          have e1:=cg hE 1 e1
          have e5:=cg hE 5 e5
          have e12:E134 12=pg g117:=cg hE 12 rfl
          clear hE
          refine Wc.seq fun _ hK135=>?_
          refine rg ?_
          refine lv (.bool y97.2.2.2) (qaw isAgg4 e1 ((hC.bx (i:=5) rfl).cell (j:=0) rfl)) ?_
          refine lp (.bool y97.2.2.2) (qaa rfl) ?_
          rcases bS y97.2.2.2 with hq136 | hq136
          · replace hb:=tt hq136 hb
            refine gv rfl rfl y97.2.2.2 rfl hq136 (.agg #[.bool y124.1,.slice A126 y124.2.length c128]) (qaq (hC.bx (i:=1) rfl) isAgg37 sizeOf37 e12) ?_
            obtain ⟨y137,h138,hb⟩:=bd hb
            refine lex.gcl (qdp rfl rfl (show _=Value.bool y97.2.2.2 from rfl) hq136) (⟨_,_,qam (vs:=[.agg #[.bool y124.1,.slice A126 y124.2.length c128]]) call24 rfl rfl rfl,qfv n (hC.lentLt [.slice A126 y124.2.length c128]) ((hC.ow (i:=0) rfl).lend (vs:=[.slice A126 y124.2.length c128]) (by simp)) h138⟩) ?_
            rintro _ w139 ⟨rfl,hK⟩
            replace hC:=hC.mergeF hK rfl
            clear hK
            refine gp rfl rfl y97.2.2.2 rfl hq136 (.bool (!y137)) (qbt (q:=y137) rfl) ?_
            refine lp (.bool (!y137)) (qap (q:=y97.2.2.2) rfl hq136 rfl) ?_
            refine lex.sk (hC.setf (i:=5) (k:=0) (v:=.bool (!y137)) rfl sizeOf4 rfl (by rw [Addr.add_zero']; exact e1) rfl rfl) ?_
            rintro w140 ⟨hC,hF⟩
            refine ln ?_
            refine hK135 _ _ ?_
            refine Wc.seq fun _ hK141=>?_
            refine rg ?_
            refine lv (.agg #[.bool y124.1,.slice A126 y124.2.length c128]) (qaq (hC.bx (i:=1) rfl) isAgg37 sizeOf37 e12) ?_
            refine lex.sk (hC.seta (i:=17) (ds:=[.bool y124.1,.slice A126 y124.2.length c128]) rfl type37 rfl rfl rfl e5 rfl) ?_
            rintro w142 ⟨hC,hF⟩
            refine ln ?_
            refine hK141 _ _ ?_
            replace hC:=hC.freeze (i:=0) rfl (hC.qgo hI (i:=0) rfl (List.forall_mem_cons.2 ⟨fun g hg=>⟨4,_,rfl,by decide,hg⟩,List.forall_mem_cons.2 ⟨fun g hg=>⟨5,_,rfl,by decide,hg⟩,List.forall_mem_cons.2 ⟨fun g hg=>⟨6,_,rfl,by decide,hg⟩,List.forall_mem_cons.2 ⟨fun g hg=>⟨7,_,rfl,by decide,hg⟩,fun _ h=>absurd h List.not_mem_nil⟩⟩⟩⟩))
            obtain rfl:=os hb
            subst hI
            refine Wc.ret ?_
            refine hKR _ _ ?_
            refine ⟨_,res1 results19 ⟨_,e5,qai (hC.bx (i:=17) rfl) isAgg37 sizeOf37⟩,_,rfl,A126,y124.2.length,c128,rfl,hC.sE [0,4,5,6,7]⟩
          · replace hb:=tf hq136 hb
            refine gs rfl rfl y97.2.2.2 rfl hq136 ?_
            refine gs rfl rfl y97.2.2.2 rfl hq136 ?_
            refine gs rfl rfl y97.2.2.2 rfl hq136 ?_
            refine lp (.bool false) (qak (q:=y97.2.2.2) rfl hq136 rfl) ?_
            refine lex.sk (hC.setf (i:=5) (k:=0) (v:=.bool false) rfl sizeOf4 rfl (by rw [Addr.add_zero']; exact e1) rfl rfl) ?_
            rintro w143 ⟨hC,hF⟩
            refine ln ?_
            refine hK135 _ _ ?_
            refine Wc.seq fun _ hK144=>?_
            refine rg ?_
            refine lv (.agg #[.bool y124.1,.slice A126 y124.2.length c128]) (qaq (hC.bx (i:=1) rfl) isAgg37 sizeOf37 e12) ?_
            refine lex.sk (hC.seta (i:=17) (ds:=[.bool y124.1,.slice A126 y124.2.length c128]) rfl type37 rfl rfl rfl e5 rfl) ?_
            rintro w145 ⟨hC,hF⟩
            refine ln ?_
            refine hK144 _ _ ?_
            replace hC:=hC.freeze (i:=0) rfl (hC.qgo hI (i:=0) rfl (List.forall_mem_cons.2 ⟨fun g hg=>⟨4,_,rfl,by decide,hg⟩,List.forall_mem_cons.2 ⟨fun g hg=>⟨5,_,rfl,by decide,hg⟩,List.forall_mem_cons.2 ⟨fun g hg=>⟨6,_,rfl,by decide,hg⟩,List.forall_mem_cons.2 ⟨fun g hg=>⟨7,_,rfl,by decide,hg⟩,fun _ h=>absurd h List.not_mem_nil⟩⟩⟩⟩))
            obtain rfl:=os hb
            subst hI
            refine Wc.ret ?_
            refine hKR _ _ ?_
            refine ⟨_,res1 results19 ⟨_,e5,qai (hC.bx (i:=17) rfl) isAgg37 sizeOf37⟩,_,rfl,A126,y124.2.length,c128,rfl,hC.sE [0,4,5,6,7]⟩
        · replace hb:=tf hq123 hb
          refine rg ?_
          refine lv (.agg #[.bool y108.1,.slice A110 y108.2.length c112]) (qaq (hC.bx (i:=0) rfl) isAgg37 sizeOf37 rfl) ?_
          refine lv (.agg #[.bool y82.1,.slice A84 y82.2.length c86]) (qaq (hC.bx (i:=7) rfl) isAgg37 sizeOf37 e11) ?_
          obtain ⟨y146,h147,hb⟩:=bd hb
          refine lex.cl (⟨_,_,qam (vs:=[.agg #[.bool y108.1,.slice A110 y108.2.length c112],.agg #[.bool y82.1,.slice A84 y82.2.length c86]]) call23 rfl rfl rfl,qht n hC.lt (hC.rd (i:=1) rfl) (hC.rd (i:=8) rfl) h147⟩) ?_
          rintro _ w152 ⟨A148,m149,c150,rfl,hK⟩
          replace hC:=hC.merge hK
          clear hK
          obtain ⟨rfl,hl153,hc154⟩:=(hC.ow (i:=0) rfl).qae
          refine lex.sk (hC.seta (i:=1) (ds:=[.bool y146.1,.slice A148 y146.2.length c150]) rfl type37 rfl rfl rfl rfl rfl) ?_
          rintro w155 ⟨hC,hF⟩
          refine ln ?_
          refine hK121 _ _ ?_
          refine Wc.fresh fun E156 hE=>?_
          have e1:=cg hE 1 e1
          have e5:=cg hE 5 e5
          have e12:E156 12=pg g117:=cg hE 12 rfl
          clear hE
          refine Wc.seq fun _ hK157=>?_
          refine rg ?_
          refine lv (.bool y97.2.2.2) (qaw isAgg4 e1 ((hC.bx (i:=5) rfl).cell (j:=0) rfl)) ?_
          refine lp (.bool y97.2.2.2) (qaa rfl) ?_
          rcases bS y97.2.2.2 with hq158 | hq158
          · replace hb:=tt hq158 hb
            refine gv rfl rfl y97.2.2.2 rfl hq158 (.agg #[.bool y146.1,.slice A148 y146.2.length c150]) (qaq (hC.bx (i:=1) rfl) isAgg37 sizeOf37 e12) ?_
            obtain ⟨y159,h160,hb⟩:=bd hb
            refine lex.gcl (qdp rfl rfl (show _=Value.bool y97.2.2.2 from rfl) hq158) (⟨_,_,qam (vs:=[.agg #[.bool y146.1,.slice A148 y146.2.length c150]]) call24 rfl rfl rfl,qfv n (hC.lentLt [.slice A148 y146.2.length c150]) ((hC.ow (i:=0) rfl).lend (vs:=[.slice A148 y146.2.length c150]) (by simp)) h160⟩) ?_
            rintro _ w161 ⟨rfl,hK⟩
            replace hC:=hC.mergeF hK rfl
            clear hK
            refine gp rfl rfl y97.2.2.2 rfl hq158 (.bool (!y159)) (qbt (q:=y159) rfl) ?_
            refine lp (.bool (!y159)) (qap (q:=y97.2.2.2) rfl hq158 rfl) ?_
            refine lex.sk (hC.setf (i:=5) (k:=0) (v:=.bool (!y159)) rfl sizeOf4 rfl (by rw [Addr.add_zero']; exact e1) rfl rfl) ?_
            rintro w162 ⟨hC,hF⟩
            refine ln ?_
            refine hK157 _ _ ?_
            refine Wc.seq fun _ hK163=>?_
            refine rg ?_
            refine lv (.agg #[.bool y146.1,.slice A148 y146.2.length c150]) (qaq (hC.bx (i:=1) rfl) isAgg37 sizeOf37 e12) ?_
            refine lex.sk (hC.seta (i:=17) (ds:=[.bool y146.1,.slice A148 y146.2.length c150]) rfl type37 rfl rfl rfl e5 rfl) ?_
            rintro w164 ⟨hC,hF⟩
            refine ln ?_
            refine hK163 _ _ ?_
            replace hC:=hC.freeze (i:=0) rfl (hC.qgo hI (i:=0) rfl (List.forall_mem_cons.2 ⟨fun g hg=>⟨4,_,rfl,by decide,hg⟩,List.forall_mem_cons.2 ⟨fun g hg=>⟨5,_,rfl,by decide,hg⟩,List.forall_mem_cons.2 ⟨fun g hg=>⟨6,_,rfl,by decide,hg⟩,List.forall_mem_cons.2 ⟨fun g hg=>⟨7,_,rfl,by decide,hg⟩,fun _ h=>absurd h List.not_mem_nil⟩⟩⟩⟩))
            obtain rfl:=os hb
            subst hI
            refine Wc.ret ?_
            refine hKR _ _ ?_
            refine ⟨_,res1 results19 ⟨_,e5,qai (hC.bx (i:=17) rfl) isAgg37 sizeOf37⟩,_,rfl,A148,y146.2.length,c150,rfl,hC.sE [0,4,5,6,7]⟩
          · replace hb:=tf hq158 hb
            refine gs rfl rfl y97.2.2.2 rfl hq158 ?_
            refine gs rfl rfl y97.2.2.2 rfl hq158 ?_
            refine gs rfl rfl y97.2.2.2 rfl hq158 ?_
            refine lp (.bool false) (qak (q:=y97.2.2.2) rfl hq158 rfl) ?_
            refine lex.sk (hC.setf (i:=5) (k:=0) (v:=.bool false) rfl sizeOf4 rfl (by rw [Addr.add_zero']; exact e1) rfl rfl) ?_
            rintro w165 ⟨hC,hF⟩
            refine ln ?_
            refine hK157 _ _ ?_
            refine Wc.seq fun _ hK166=>?_
            refine rg ?_
            refine lv (.agg #[.bool y146.1,.slice A148 y146.2.length c150]) (qaq (hC.bx (i:=1) rfl) isAgg37 sizeOf37 e12) ?_
            refine lex.sk (hC.seta (i:=17) (ds:=[.bool y146.1,.slice A148 y146.2.length c150]) rfl type37 rfl rfl rfl e5 rfl) ?_
            rintro w167 ⟨hC,hF⟩
            refine ln ?_
            refine hK166 _ _ ?_
            replace hC:=hC.freeze (i:=0) rfl (hC.qgo hI (i:=0) rfl (List.forall_mem_cons.2 ⟨fun g hg=>⟨4,_,rfl,by decide,hg⟩,List.forall_mem_cons.2 ⟨fun g hg=>⟨5,_,rfl,by decide,hg⟩,List.forall_mem_cons.2 ⟨fun g hg=>⟨6,_,rfl,by decide,hg⟩,List.forall_mem_cons.2 ⟨fun g hg=>⟨7,_,rfl,by decide,hg⟩,fun _ h=>absurd h List.not_mem_nil⟩⟩⟩⟩))
            obtain rfl:=os hb
            subst hI
            refine Wc.ret ?_
            refine hKR _ _ ?_
            refine ⟨_,res1 results19 ⟨_,e5,qai (hC.bx (i:=17) rfl) isAgg37 sizeOf37⟩,_,rfl,A148,y146.2.length,c150,rfl,hC.sE [0,4,5,6,7]⟩
      · replace hb:=tf hq64 hb
        refine Wc.seq fun _ hK168=>?_
        refine rg ?_
        refine lp (.bool (decide (y21.2.2.2.2.2.2.2=12))) (qbl (k:=.i64) (a:=y21.2.2.2.2.2.2.2) (b:=12) rfl rfl) ?_
        refine lp (.bool (decide (y21.2.2.2.2.2.2.2=12))) (qab rfl) ?_
        refine ln ?_
        refine hK168 _ _ ?_
        refine Wc.cond (t:=(decide (y21.2.2.2.2.2.2.2=12))) (rfl) (fun hq169=>?_) (fun hq169=>?_)
        · replace hb:=tt hq169 hb
          refine Wc.seq fun _ hK170=>?_
          refine rg ?_
          refine lv (.agg #[.slice z s.length p,.slice u y.length x,iv A]) (qaq (hC.bx (i:=7) rfl) isAgg32 sizeOf32 e4) ?_
          obtain ⟨y171,h172,hb⟩:=bd hb
          refine lex.cl (⟨_,_,qam (vs:=[.agg #[.slice z s.length p,.slice u y.length x,iv A]]) call12 rfl rfl rfl,qhu n hC.lt (hC.rd (i:=9) rfl) (hC.rd (i:=8) rfl) H h172⟩) ?_
          rintro _ w174 ⟨rfl,hr173,hK⟩
          replace hC:=hC.merge hK
          clear hK
          refine lp (iv y171) (qab rfl) ?_
          refine ln ?_
          refine hK170 _ _ ?_
          refine Wc.seq fun _ hK175=>?_
          refine rg ?_
          refine lv (.map (some d)) (qaw isAgg56 e3 ((hC.bx (i:=13) rfl).cell (j:=0) rfl)) ?_
          refine lp (iv y171) (qaa rfl) ?_
          obtain ⟨x177,h178,hb⟩:=bd hb
          obtain ⟨cs176,hY,hR⟩:=hC.mplk (i:=10) (k:=y171) rfl (KL.int underlying3) underlying56 (zc:=[.bool false,.slice none 0 0]) (zx:=(false,([]:List (Int×(Int×Int))))) zeroValue37 (⟨[.bool false],[.slice none 0 0],rfl,show Rep _ _ .bool _ _ from rfl,(show Rep _ _ (.sl (.pr si (.pr si si))) [.slice none 0 0] ([]:List (Int×(Int×Int))) from ⟨none,0,rfl,Nat.le_refl _,by omega,fun h=>absurd h (by simp)⟩)⟩) true
          rw [Option.some.inj h178] at hR
          obtain ⟨k179,k180,rfl,hr181,hr182⟩:=hR
          obtain rfl:=(show _=_ from hr181)
          have hR:=hr182
          obtain ⟨A183,c184,rfl,hl185,hc186,_⟩:=hr182
          replace hC:=hC.ro hR
          clear hR
          refine lv (.tuple #[.agg #[.bool x177.1,.slice A183 x177.2.length c184],.bool ((gget f y171).isSome)]) (hY rfl rfl) ?_
          clear hY
          refine lp (.tuple #[.agg #[.bool x177.1,.slice A183 x177.2.length c184],.bool ((gget f y171).isSome)]) (qaa rfl) ?_
          refine lp (.agg #[.bool x177.1,.slice A183 x177.2.length c184]) (qav rfl rfl) ?_
          refine lp (.bool ((gget f y171).isSome)) (qav rfl rfl) ?_
          refine lex.op (hC.alloc (cs:=[.bool false,.slice none 0 0]) zeroValue37 rfl) ?_
          rintro _ w189 ⟨g188,rfl,hC,hF,hG⟩
          clear hG
          refine lex.sk (hC.seta (i:=0) (ds:=[.bool x177.1,.slice A183 x177.2.length c184]) rfl type37 rfl rfl rfl rfl rfl) ?_
          rintro w191 ⟨hC,hF⟩
          refine lp (.bool ((gget f y171).isSome)) (qab rfl) ?_
          refine ln ?_
          refine hK175 _ _ ?_
          refine Wc.fresh fun E192 hE=>?_
          have e1:=cg hE 1 e1
          have e3:=cg hE 3 e3
          have e5:=cg hE 5 e5
          have e13:E192 13=iv y171:=cg hE 13 rfl
          have e14:E192 14=pg g188:=cg hE 14 rfl
          have e15:E192 15=.bool ((gget f y171).isSome):=cg hE 15 rfl
          clear hE
          refine Wc.seq fun _ hK193=>?_
          refine Wc.seq fun _ hK194=>?_
          refine rg ?_
          refine lp _ (qaa e15) ?_
          refine lp (.bool (!(gget f y171).isSome)) (qbt (q:=(gget f y171).isSome) rfl) ?_
          refine ln ?_
          refine hK194 _ _ ?_
          refine Wc.cond (t:=(!(gget f y171).isSome)) (rfl) (fun hq195=>?_) (fun hq195=>?_)
          · replace hb:=tt hq195 hb
            refine Wc.seq fun _ hK196=>?_
            refine rg ?_
            refine lp _ (qaa e13) ?_
            obtain ⟨y197,h198,hb⟩:=bd hb
            refine lex.cl (⟨_,_,qam (vs:=[iv y171]) call25 rfl rfl rfl,homfly_circles_ok n hC.lt hr173 h198⟩) ?_
            rintro _ w203 ⟨A199,m200,c201,rfl,hK⟩
            replace hC:=hC.merge hK
            clear hK
            obtain ⟨rfl,hl204,hc205⟩:=(hC.ow (i:=0) rfl).qae
            refine lex.sk (hC.seta (i:=1) (ds:=[.bool y197.1,.slice A199 y197.2.length c201]) rfl type37 rfl rfl rfl e14 rfl) ?_
            rintro w206 ⟨hC,hF⟩
            refine ln ?_
            refine hK196 _ _ ?_
            refine rg ?_
            refine lv (.map (some d)) (qaw isAgg56 e3 ((hC.bx (i:=16) rfl).cell (j:=0) rfl)) ?_
            refine lp _ (qaa e13) ?_
            refine lv (.agg #[.bool y197.1,.slice A199 y197.2.length c201]) (qaq (hC.bx (i:=1) rfl) isAgg37 sizeOf37 e14) ?_
            replace hC:=hC.freeze (i:=0) rfl (hC.qgo hI (i:=0) rfl (List.forall_mem_cons.2 ⟨fun g hg=>⟨13,_,rfl,by decide,hg⟩,List.forall_mem_cons.2 ⟨fun g hg=>⟨14,_,rfl,by decide,hg⟩,List.forall_mem_cons.2 ⟨fun g hg=>⟨15,_,rfl,by decide,hg⟩,List.forall_mem_cons.2 ⟨fun g hg=>⟨16,_,rfl,by decide,hg⟩,fun _ h=>absurd h List.not_mem_nil⟩⟩⟩⟩))
            refine lex.sk (hC.mpput (i:=13) (k:=y171) (cs:=[.bool y197.1,.slice A199 y197.2.length c201]) (v:=(y197.1,y197.2)) rfl (KL.int underlying3) hr173 underlying56 (⟨[.bool y197.1],[.slice A199 y197.2.length c201],rfl,show Rep _ _ .bool _ _ from rfl,hC.rd (i:=0) rfl⟩) rfl rfl rfl) ?_
            rintro w207 ⟨hC,hF⟩
            clear hF
            refine ln ?_
            refine hK193 _ _ ?_
            refine Wc.seq fun _ hK208=>?_
            refine rg ?_
            refine lv (.bool l) (qaw isAgg4 e1 ((hC.bx (i:=14) rfl).cell (j:=0) rfl)) ?_
            refine lp (.bool l) (qaa rfl) ?_
            refine gv rfl rfl l rfl (nF hq16) (.agg #[.bool y197.1,.slice A199 y197.2.length c201]) (qaq (hC.bx (i:=1) rfl) isAgg37 sizeOf37 e14) ?_
            obtain ⟨y209,h210,hb⟩:=bd hb
            refine lex.gcl (qdp rfl rfl (show _=Value.bool l from rfl) (nF hq16)) (⟨_,_,qam (vs:=[.agg #[.bool y197.1,.slice A199 y197.2.length c201]]) call24 rfl rfl rfl,qfv n hC.lt (hC.rd (i:=0) rfl) h210⟩) ?_
            rintro _ w211 ⟨rfl,hK⟩
            replace hC:=hC.merge hK
            clear hK
            refine gp rfl rfl l rfl (nF hq16) (.bool (!y209)) (qbt (q:=y209) rfl) ?_
            refine lp (.bool (!y209)) (qap (q:=l) rfl (nF hq16) rfl) ?_
            refine lex.sk (hC.setf (i:=14) (k:=0) (v:=.bool (!y209)) rfl sizeOf4 rfl (by rw [Addr.add_zero']; exact e1) rfl rfl) ?_
            rintro w212 ⟨hC,hF⟩
            refine ln ?_
            refine hK208 _ _ ?_
            refine Wc.seq fun _ hK213=>?_
            refine rg ?_
            refine lv (.agg #[.bool y197.1,.slice A199 y197.2.length c201]) (qaq (hC.bx (i:=1) rfl) isAgg37 sizeOf37 e14) ?_
            refine lex.sk (hC.seta (i:=9) (ds:=[.bool y197.1,.slice A199 y197.2.length c201]) rfl type37 rfl rfl rfl e5 rfl) ?_
            rintro w214 ⟨hC,hF⟩
            refine ln ?_
            refine hK213 _ _ ?_
            obtain rfl:=os hb
            subst hI
            refine Wc.ret ?_
            refine hKR _ _ ?_
            refine ⟨_,res1 results19 ⟨_,e5,qai (hC.bx (i:=9) rfl) isAgg37 sizeOf37⟩,_,rfl,A199,y197.2.length,c201,rfl,hC.sE [0,13,14,15,16]⟩
          · replace hb:=tf hq195 hb
            refine Wc.skip ?_
            refine hK193 _ _ ?_
            refine Wc.seq fun _ hK215=>?_
            refine rg ?_
            refine lv (.bool l) (qaw isAgg4 e1 ((hC.bx (i:=13) rfl).cell (j:=0) rfl)) ?_
            refine lp (.bool l) (qaa rfl) ?_
            refine gv rfl rfl l rfl (nF hq16) (.agg #[.bool x177.1,.slice A183 x177.2.length c184]) (qaq (hC.bx (i:=0) rfl) isAgg37 sizeOf37 e14) ?_
            obtain ⟨y216,h217,hb⟩:=bd hb
            refine lex.gcl (qdp rfl rfl (show _=Value.bool l from rfl) (nF hq16)) (⟨_,_,qam (vs:=[.agg #[.bool x177.1,.slice A183 x177.2.length c184]]) call24 rfl rfl rfl,qfv n hC.lt (hC.rd (i:=1) rfl) h217⟩) ?_
            rintro _ w218 ⟨rfl,hK⟩
            replace hC:=hC.merge hK
            clear hK
            refine gp rfl rfl l rfl (nF hq16) (.bool (!y216)) (qbt (q:=y216) rfl) ?_
            refine lp (.bool (!y216)) (qap (q:=l) rfl (nF hq16) rfl) ?_
            refine lex.sk (hC.setf (i:=13) (k:=0) (v:=.bool (!y216)) rfl sizeOf4 rfl (by rw [Addr.add_zero']; exact e1) rfl rfl) ?_
            rintro w219 ⟨hC,hF⟩
            refine ln ?_
            refine hK215 _ _ ?_
            refine Wc.seq fun _ hK220=>?_
            refine rg ?_
            refine lv (.agg #[.bool x177.1,.slice A183 x177.2.length c184]) (qaq (hC.bx (i:=0) rfl) isAgg37 sizeOf37 e14) ?_
            refine lex.sk (hC.seta (i:=8) (ds:=[.bool x177.1,.slice A183 x177.2.length c184]) rfl type37 rfl rfl rfl e5 rfl) ?_
            rintro w221 ⟨hC,hF⟩
            refine ln ?_
            refine hK220 _ _ ?_
            obtain rfl:=os hb
            subst hI
            refine Wc.ret ?_
            refine hKR _ _ ?_
            refine ⟨_,res1 results19 ⟨_,e5,qai (hC.bx (i:=8) rfl) isAgg37 sizeOf37⟩,_,rfl,A183,x177.2.length,c184,rfl,hC.sE [1,12,13,14,15]⟩
        · replace hb:=tf hq169 hb
          refine Wc.skip ?_
          refine hK61 _ _ ?_
          refine Wc.seq fun _ hK222=>?_
          refine rg ?_
          refine lex.sk (hC.setf (i:=11) (k:=0) (v:=.bool false) rfl sizeOf4 rfl (by rw [Addr.add_zero']; exact e1) rfl rfl) ?_
          rintro w223 ⟨hC,hF⟩
          refine ln ?_
          refine hK222 _ _ ?_
          refine Wc.seq fun _ hK224=>?_
          refine rg ?_
          refine lp (.agg #[.bool false,.slice none 0 0]) (qat (places:=[(0,1),(1,1)]) (pv:=[]) type37 underlying37 rfl (qag type4 (qag type35 qbb rfl rfl) rfl rfl) rfl (by simp [Instr.fill,Value.cells])) ?_
          refine lex.sk (hC.seta (i:=6) (ds:=[.bool false,.slice none 0 0]) rfl type37 rfl rfl rfl e5 rfl) ?_
          rintro w225 ⟨hC,hF⟩
          refine ln ?_
          refine hK224 _ _ ?_
          replace hC:=hC.ro (show Rep _ _ (.sl (.pr si (.pr si si))) [.slice none 0 0] [] from ⟨none,0,rfl,Nat.le_refl _,by omega,fun h=>absurd h (by simp)⟩)
          obtain rfl:=os hb
          subst hI
          refine Wc.ret ?_
          refine hKR _ _ ?_
          refine ⟨_,res1 results19 ⟨_,e5,qai (hC.bx (i:=7) rfl) isAgg37 sizeOf37⟩,_,rfl,none,0,0,rfl,hC.sE [0,11,12,13,14]⟩
