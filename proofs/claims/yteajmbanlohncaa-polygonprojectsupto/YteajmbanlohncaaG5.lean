import Derived.Test.YteajmbanlohncaaS
set_option linter.unusedVariables false
set_option linter.unusedSimpArgs false
namespace Go.Proofs.Yteajmbanlohncaa
open Ev Try
set_option maxRecDepth 100000
set_option maxHeartbeats 4000000
theorem gauss_ends_ok (n:Nat) {w:World} {O0:List Nat} (hO: ∀k∈O0,k<w.heap.size) {l:Option Addr} {p m:Nat} {o:List (List (Int×Bool))} (s:Rep O0 w (.sl (.sl (.pr si .bool))) [.slice l p m] o) {f:Option Addr} {u g:Nat} {h:List Int} (x:Rep O0 w (.sl si) [.slice f u g] h) {j:Int} (D:I64 j) {c:Int} (y:I64 c) {d:Bool} {r:Int×Int} (hb:F.gauss_ends n o h j c d=some r):
    Calls prog 101 #[.agg #[.slice l p m,.slice f u g,iv j],.agg #[iv c,.bool d]] w fun e w'=> ∃v,e=.returned v∧v=.tuple #[iv r.1,iv r.2]∧I64 r.1∧I64 r.2∧Cx (fun _=>False) O0 w w' []:=by
 unfold F.gauss_ends at hb
 have hC:=Cx.start hO
 replace hC:=hC.arg rfl s
 replace hC:=hC.arg rfl x
 clear hO
 obtain ⟨rfl,z,A⟩:=s.sl_len
 obtain ⟨rfl,B,C⟩:=x.sl_len
 refine calls_of_Wc func101 rfl (by rw [ntmps101]; exact nb rfl) fun KR hKR=>?_
 refine Wc.seq fun _ hK3=>rg<|lex.op (hC.box (cs:=[.slice l o.length m,.slice f h.length g,iv j]) rfl rfl) ?_
 rintro _ w5 ⟨g4,rfl,hC,hF,-⟩
 refine lex.op (hC.box (cs:=[iv c,.bool d]) rfl rfl) ?_
 rintro _ w8 ⟨g7,rfl,hC,hF,-⟩
 refine lp (iv 0) (pu_assign rfl)<|lp (iv 0) (pu_assign rfl)<|ln (hK3 _ _ ?_)
 refine Wc.seq fun _ hK10=>rg<|lp (.pointer (some ((⟨g7,0,none⟩:Addr).add 0))) (pu_field (sz:=1) underlying119 rfl sizeOf3 (by decide) rfl rfl)<|lv (iv c) (ld_fld (hC.bx (i:=0) rfl) isAgg3 rfl rfl) ?_
 obtain ⟨z11,h12,hb⟩:=bd hb
 refine lp (iv z11) (pu_mulc (a:=4) (b:=c) rfl rfl h12)<|lp (iv z11) (pu_assign rfl)<|ln (hK10 _ _ ?_)
 refine Wc.seq fun _ hK13=>?_
 refine Wc.block<|Wc.seq fun _ hK14=>rg<|lp (.pointer (some ((⟨g7,0,none⟩:Addr).add 1))) (pu_field (sz:=1) underlying119 rfl sizeOf4 (by decide) rfl rfl)<|lv (.bool d) (ld_fld (hC.bx (i:=0) rfl) isAgg4 rfl rfl)<|lp (.bool (!d)) (pu_not (q:=d) rfl)<|lp (.bool (!d)) (pu_assign rfl)<|ln (hK14 _ _ ?_)
 refine Wc.fresh fun E15 hE=>?_
 have e2:E15 2=pg g4:=cg hE 2 rfl
 have e3:E15 3=pg g7:=cg hE 3 rfl
 have e4:E15 4=iv 0:=cg hE 4 rfl
 have e5:E15 5=iv 0:=cg hE 5 rfl
 have e6:E15 6=iv z11:=cg hE 6 rfl
 have e10:E15 10=.bool (!d):=cg hE 10 rfl
 clear hE
 refine Wc.cond (t:=(!d)) (e10) (fun hq16=>?_) (fun hq16=>?_)
 replace hb:=tt hq16 hb
 refine Wc.seq fun _ hK17=>rg<|lp _ (pu_move e6)<|lp _ (pu_move e6) ?_
 obtain ⟨z18,h19,hb⟩:=bd hb
 refine lp (iv z18) (pu_addc (a:=z11) (b:=2) rfl rfl h19)<|lp (iv z11) (pu_assign rfl)<|lp (iv z18) (pu_assign rfl)<|ln (hK17 _ _ ?_)
 obtain rfl:=os hb
 refine Wc.ret (hKR _ _ ?_)
 refine ⟨_,res2 results101 (tV (iv z11) rfl) (tV (iv z18) rfl),_,rfl,rfl,(chk_rng h12),(chk_rng h19),hC.sE []⟩
 replace hb:=tf hq16 hb
 refine Wc.seq fun _ hK20=>rg<|lp (.pointer (some ((⟨g4,0,none⟩:Addr).add 1))) (pu_field (sz:=1) underlying77 rfl sizeOf30 (by decide) rfl e2)<|lv (.slice f h.length g) (ld_fld (hC.bx (i:=1) rfl) isAgg30 rfl rfl)<|lp (.pointer (some ((⟨g7,0,none⟩:Addr).add 0))) (pu_field (sz:=1) underlying119 rfl sizeOf3 (by decide) rfl e3)<|lv (iv c) (ld_fld (hC.bx (i:=0) rfl) isAgg3 rfl rfl) ?_
 obtain ⟨x21,h22,hb⟩:=bd hb
 obtain ⟨ad23,cs24,hA,hc25,hr26⟩:=hC.elr (i:=2) rfl (get_some h22).2
 subst hA
 refine lp (.pointer (some (ad23.add (c.toNat*1)))) (pu_index (a:=c) underlying30 sizeOf3 rfl rfl (get_some h22).1) ?_
 obtain ⟨rfl,hr26'⟩:=hr26
 refine lv (iv x21) (ld_one isAgg3 rfl (hc25 0 _ rfl))<|lp (.bool (decide (x21=1))) (pu_eql (k:=.i64) (a:=x21) (b:=1) rfl rfl)<|lp (.bool (decide (x21=1))) (pu_assign rfl)<|ln (hK20 _ _ ?_)
 refine Wc.cond (t:=(decide (x21=1))) (rfl) (fun hq27=>?_) (fun hq27=>?_)
 replace hb:=tt hq27 hb
 refine Wc.seq fun _ hK28=>rg<|lp _ (pu_move e6) ?_
 obtain ⟨z29,h30,hb⟩:=bd hb
 refine lp (iv z29) (pu_addc (a:=z11) (b:=3) rfl rfl h30)<|lp _ (pu_move e6) ?_
 obtain ⟨z31,h32,hb⟩:=bd hb
 refine lp (iv z31) (pu_addc (a:=z11) (b:=1) rfl rfl h32)<|lp (iv z29) (pu_assign rfl)<|lp (iv z31) (pu_assign rfl)<|ln (hK28 _ _ ?_)
 obtain rfl:=os hb
 refine Wc.ret (hKR _ _ ?_)
 refine ⟨_,res2 results101 (tV (iv z29) rfl) (tV (iv z31) rfl),_,rfl,rfl,(chk_rng h30),(chk_rng h32),hC.sE []⟩
 replace hb:=tf hq27 hb
 refine Wc.skip (hK13 _ _ ?_)
 refine Wc.seq fun _ hK33=>rg<|lp _ (pu_move e6) ?_
 obtain ⟨z34,h35,hb⟩:=bd hb
 refine lp (iv z34) (pu_addc (a:=z11) (b:=1) rfl rfl h35)<|lp _ (pu_move e6) ?_
 obtain ⟨z36,h37,hb⟩:=bd hb
 refine lp (iv z36) (pu_addc (a:=z11) (b:=3) rfl rfl h37)<|lp (iv z34) (pu_assign rfl)<|lp (iv z36) (pu_assign rfl)<|ln (hK33 _ _ ?_)
 obtain rfl:=os hb
 refine Wc.ret (hKR _ _ ?_)
 refine ⟨_,res2 results101 (tV (iv z34) rfl) (tV (iv z36) rfl),_,rfl,rfl,(chk_rng h35),(chk_rng h37),hC.sE []⟩

theorem gauss_mates_ok (n:Nat) {w:World} {O0:List Nat} (hO: ∀k∈O0,k<w.heap.size) {x:Option Addr} {C d:Nat} {c:List (List (Int×Bool))} (D:Rep O0 w (.sl (.sl (.pr si .bool))) [.slice x C d] c) {g:Option Addr} {G h:Nat} {f:List Int} (H:Rep O0 w (.sl si) [.slice g G h] f) {p:Int} (J:I64 p) {r:(List Int)} (hb:F.gauss_mates n c f p=some r):
    Calls prog 84 #[.agg #[.slice x C d,.slice g G h,iv p]] w fun e w'=> ∃v,e=.returned v∧∃(A0:Option Addr) (m0 c0:Nat),v=.slice A0 m0 c0∧Cx (fun _=>False) O0 w w' [.own 3 si (.slice A0 m0 c0) r]:=by
 unfold F.gauss_mates at hb
 have hC:=Cx.start hO
 replace hC:=hC.arg rfl D
 replace hC:=hC.arg rfl H
 clear hO
 obtain ⟨rfl,K,L⟩:=D.sl_len
 obtain ⟨rfl,M,N⟩:=H.sl_len
 refine calls_of_Wc func84 rfl (by rw [ntmps84]; exact nb rfl) fun KR hKR=>?_
 refine Wc.seq fun _ hK3=>rg<|lex.op (hC.box (cs:=[.slice x c.length d,.slice g f.length h,iv p]) rfl rfl) ?_
 rintro _ w5 ⟨g4,rfl,hC,hF,-⟩
 refine lp (.slice none 0 0) (pu_assign rfl)<|ln (hK3 _ _ ?_)
 refine Wc.seq fun _ hK7=>rg<|lp (.pointer (some ((⟨g4,0,none⟩:Addr).add 1))) (pu_field (sz:=1) underlying77 rfl sizeOf30 (by decide) rfl rfl)<|lv (.slice g f.length h) (ld_fld (hC.bx (i:=0) rfl) isAgg30 rfl rfl)<|lp (iv (f.length:Int)) (pu_len (A:=g) (n:=f.length) (m:=h) underlying30 rfl) ?_
 obtain ⟨z8,h9,hb⟩:=bd hb
 refine lp (iv z8) (pu_mulc (a:=4) (b:=(f.length:Int)) rfl rfl h9) ?_
 obtain ⟨u10,h11,hb⟩:=bd hb
 refine lex.op (hC.make (s:=si) (n:=z8) underlying30 type3 rfl rfl rfl rfl rfl (pos_some h11).1 (pos_some h11).2 (by decide)) ?_
 rintro _ w16 ⟨A12,c13,rfl,hl14,hc15,hC,-,-⟩
 refine lp (.slice A12 (((rZ z8)).length) c13) (pu_assign rfl)<|ln (hK7 _ _ ?_)
 refine Wc.seq fun _ hK18=>?_
 refine Wc.seq fun _ hK19=>rg<|lp (.pointer (some ((⟨g4,0,none⟩:Addr).add 0))) (pu_field (sz:=1) underlying77 rfl sizeOf75 (by decide) rfl rfl)<|lv (.slice x c.length d) (ld_fld (hC.bx (i:=1) rfl) isAgg75 rfl rfl)<|lp (iv (c.length:Int)) (pu_len (A:=x) (n:=c.length) (m:=d) underlying75 rfl)<|lp (iv 0) (pu_move rfl)<|ln (hK19 _ _ ?_)
 refine Wc.fresh fun E20 hE=>?_
 have e1:E20 1=pg g4:=cg hE 1 rfl
 have e2:E20 2=.slice none 0 0:=cg hE 2 rfl
 have e3:E20 3=.slice A12 (((rZ z8)).length) c13:=cg hE 3 rfl
 have e18:E20 18=.slice x c.length d:=cg hE 18 rfl
 have e19:E20 19=iv (c.length:Int):=cg hE 19 rfl
 have e20:E20 20=iv 0:=cg hE 20 rfl
 clear hE
 obtain ⟨o21,hl0,f21,hf21,hb⟩:=bn hb
 refine Wc.cut (fun E wv=> ∃(l:Int) (y:List Int),E 2=.slice none 0 0∧E 3=.slice A12 (((rZ z8)).length) c13∧I64 l∧Cx (fun _=>False) O0 w wv [.own 3 si (.slice A12 (((rZ z8)).length) c13) y]∧f21 (l,y)=some r) (fun _ hK22=>?_) ?_
 refine Wc.block ?_
 refine Wc.loop (fun m E wv=> ∃(l:Int) (y:List Int),E 1=pg g4∧E 2=.slice none 0 0∧E 3=.slice A12 (((rZ z8)).length) c13∧E 18=.slice x c.length d∧E 19=iv (c.length:Int)∧E 20=iv l∧I64 l∧Cx (fun _=>False) O0 w wv [.box g4 77 [.slice x c.length d,.slice g f.length h,iv p],.ro (.sl (.sl (.pr si .bool))) [.slice x c.length d] c,.ro (.sl si) [.slice g f.length h] f,.own 3 si (.slice A12 (((rZ z8)).length) c13) y]∧loopN m (F.gauss_mates_b0 n c f p) (l,y)=some o21) n ⟨0,(rZ z8),e1,e2,e3,e18,e19,e20,(show I64 0 from by unfold I64; omega),hC.sE [1,3,2,0],hl0⟩ ?_
 have hbK0:=hb
 clear hb hC hl0
 rintro m24 E26 w25 ⟨l,y,e1,e2,e3,e18,e19,e20,z,hC,hl0⟩ K23 hK23
 obtain ⟨m24',o27,rfl,hb,hl0⟩:=loopN_some hl0
 unfold F.gauss_mates_b0 at hb
 refine Wc.seq fun _ hK28=>rg<|lp _ (pu_lss e20 e19)<|ln (hK28 _ _ ?_)
 refine Wc.seq fun _ hK29=>?_
 refine Wc.cond (t:=(decide (l<(c.length:Int)))) (rfl) (fun hq30=>?_) (fun hq30=>?_)
 replace hb:=tt hq30 hb
 refine Wc.skip (hK29 _ _ ?_)
 refine Wc.seq fun _ hK31=>?_
 refine Wc.block<|Wc.seq fun _ hK32=>rg ?_
 obtain ⟨x33,h34,hb⟩:=bd hb
 obtain ⟨ad35,cs36,hA,hc37,hr38⟩:=hC.elr (i:=1) rfl (get_some h34).2
 subst hA
 refine lp (.pointer (some (ad35.add (l.toNat*1)))) (pu_index (a:=l) underlying75 sizeOf116 e18 e20 (get_some h34).1) ?_
 have hR:=hr38
 obtain ⟨A39,c40,rfl,hl41,hc42,_⟩:=hr38
 replace hC:=hC.ro hR
 clear hR
 refine lv (.slice A39 x33.length c40) (ld_one isAgg116 rfl (hc37 0 _ rfl))<|lp (.slice A39 x33.length c40) (pu_assign rfl)<|ln (hK32 _ _ ?_)
 refine Wc.seq fun _ hK44=>rg<|lp (.slice A39 x33.length c40) (pu_move rfl)<|lp (iv (x33.length:Int)) (pu_len (A:=A39) (n:=x33.length) (m:=c40) underlying116 rfl)<|lp (iv 0) (pu_move rfl)<|ln (hK44 _ _ ?_)
 obtain ⟨o45,hl1,hb⟩:=bd hb
 refine Wc.cut (fun E wv=> ∃(o:Int) (q:List Int),E 1=pg g4∧E 2=.slice none 0 0∧E 3=.slice A12 (((rZ z8)).length) c13∧E 5=.slice A39 x33.length c40∧E 18=.slice (some ad35) c.length d∧E 19=iv (c.length:Int)∧E 20=iv l∧E 21=.bool (decide (l<(c.length:Int)))∧E 24=.slice A39 x33.length c40∧E 25=iv (x33.length:Int)∧E 26=iv o∧I64 o∧Cx (fun _=>False) O0 w wv [.box g4 77 [.slice (some ad35) c.length d,.slice g f.length h,iv p],.ro (.sl (.sl (.pr si .bool))) [.slice (some ad35) c.length d] c,.ro (.sl si) [.slice g f.length h] f,.own 3 si (.slice A12 (((rZ z8)).length) c13) q,.ro (.sl (.pr si .bool)) [.slice A39 x33.length c40] x33]∧((chk (l+1)).bind fun z121=>some (.inl (z121,q)):Option ((Int×(List Int))⊕((Int×(List Int)))))=some o27) (fun _ hK46=>?_) ?_
 refine Wc.block ?_
 refine Wc.loop (fun m E wv=> ∃(o:Int) (q:List Int),E 1=pg g4∧E 2=.slice none 0 0∧E 3=.slice A12 (((rZ z8)).length) c13∧E 5=.slice A39 x33.length c40∧E 18=.slice (some ad35) c.length d∧E 19=iv (c.length:Int)∧E 20=iv l∧E 21=.bool (decide (l<(c.length:Int)))∧E 24=.slice A39 x33.length c40∧E 25=iv (x33.length:Int)∧E 26=iv o∧I64 o∧Cx (fun _=>False) O0 w wv [.box g4 77 [.slice (some ad35) c.length d,.slice g f.length h,iv p],.ro (.sl (.sl (.pr si .bool))) [.slice (some ad35) c.length d] c,.ro (.sl si) [.slice g f.length h] f,.own 3 si (.slice A12 (((rZ z8)).length) c13) q,.ro (.sl (.pr si .bool)) [.slice A39 x33.length c40] x33]∧loopN m (F.gauss_mates_b1 n c f p x33) (o,q)=some o45) n ⟨0,y,e1,e2,e3,rfl,e18,e19,e20,rfl,rfl,rfl,rfl,(show I64 0 from by unfold I64; omega),hC.sE [1,2,3,4,0],hl1⟩ ?_
 have hbK1:=hb
 clear hb hC hl1
 rintro m48 E50 w49 ⟨o,q,e1,e2,e3,e5,e18,e19,e20,e21,e24,e25,e26,B,hC,hl1⟩ K47 hK47
 obtain ⟨m48',o51,rfl,hb,hl1⟩:=loopN_some hl1
 unfold F.gauss_mates_b1 at hb
 refine Wc.seq fun _ hK52=>rg<|lp _ (pu_lss e26 e25)<|ln (hK52 _ _ ?_)
 refine Wc.seq fun _ hK53=>?_
 refine Wc.cond (t:=(decide (o<(x33.length:Int)))) (rfl) (fun hq54=>?_) (fun hq54=>?_)
 replace hb:=tt hq54 hb
 refine Wc.skip (hK53 _ _ ?_)
 refine Wc.seq fun _ hK55=>?_
 refine Wc.block<|Wc.seq fun _ hK56=>rg<|lp _ (pu_move e26) ?_
 obtain ⟨x57,h58,hb⟩:=bd hb
 obtain ⟨ad59,cs60,hA,hc61,hr62⟩:=hC.elr (i:=4) rfl (get_some h58).2
 subst hA
 refine lp (.pointer (some (ad59.add (o.toNat*2)))) (pu_index (a:=o) underlying116 sizeOf119 e24 e26 (get_some h58).1) ?_
 obtain ⟨k63,k64,rfl,hr65,hr66⟩:=hr62
 obtain ⟨rfl,hr65⟩:=hr65
 obtain rfl:=(show _=_ from hr66)
 refine lv (.agg #[iv x57.1,.bool x57.2]) (ld_agg isAgg119 sizeOf119 rfl rfl hc61)<|lex.op (hC.alloc (cs:=[iv 0,.bool false]) zeroValue119 rfl) ?_
 rintro _ w68 ⟨g67,rfl,hC,hF,-⟩
 refine lp (iv o) (pu_assign rfl)<|lex.sk (hC.seta (i:=0) (ds:=[iv x57.1,.bool x57.2]) rfl type119 rfl rfl rfl rfl rfl) ?_
 rintro w70 ⟨hC,hF⟩
 refine ln (hK56 _ _ ?_)
 refine Wc.seq fun _ hK71=>rg<|lv (.agg #[.slice (some ad35) c.length d,.slice g f.length h,iv p]) (ld_blk (hC.bx (i:=1) rfl) isAgg77 sizeOf77 e1)<|lv (.agg #[iv x57.1,.bool x57.2]) (ld_blk (hC.bx (i:=0) rfl) isAgg119 sizeOf119 rfl) ?_
 obtain ⟨y72,h73,hb⟩:=bd hb
 refine lex.cl (⟨_,_,op_call (vs:=[.agg #[.slice (some ad35) c.length d,.slice g f.length h,iv p],.agg #[iv x57.1,.bool x57.2]]) call101 rfl rfl rfl,gauss_ends_ok n hC.lt (hC.rd (i:=2) rfl) (hC.rd (i:=3) rfl) J (wrap_I64 hr65) h73⟩) ?_
 rintro _ w76 ⟨rfl,hr74,hr75,hK⟩
 replace hC:=hC.merge hK
 clear hK
 refine lp (.tuple #[iv y72.1,iv y72.2]) (pu_move rfl)<|lp (iv y72.1) (pu_extract rfl rfl)<|lp (iv y72.2) (pu_extract rfl rfl)<|lp (iv y72.1) (pu_assign rfl)<|lp (iv y72.2) (pu_assign rfl)<|ln (hK71 _ _ ?_)
 refine Wc.fresh fun E77 hE=>?_
 have e1:=cg hE 1 e1
 have e2:=cg hE 2 e2
 have e3:=cg hE 3 e3
 have e5:=cg hE 5 e5
 have e6:E77 6=iv o:=cg hE 6 rfl
 have e7:E77 7=pg g67:=cg hE 7 rfl
 have e9:E77 9=iv y72.2:=cg hE 9 rfl
 have e18:=cg hE 18 e18
 have e19:=cg hE 19 e19
 have e20:=cg hE 20 e20
 have e21:=cg hE 21 e21
 have e24:=cg hE 24 e24
 have e25:=cg hE 25 e25
 have e26:=cg hE 26 e26
 have e27:E77 27=.bool (decide (o<(x33.length:Int))):=cg hE 27 rfl
 clear hE
 refine Wc.seq fun _ hK78=>?_
 refine Wc.regionMix [] (frm [] ([]:List Fact) ([]:List Fact)) (fun _=>rfl) mixed (by decide+kernel) (by decide+kernel) fun w80 hw79=>?_
 replace hC:=hC.step (Fr.of_drew hw79)
 have hM:=Fr.refl (fun k=>k∈blocks ([]:List Fact)) w80
 clear hw79
 have hS:=hC
 refine mixE.load hM (v:=.agg #[.slice (some ad35) c.length d,.slice g f.length h,iv p]) (fun _ hF=>ld_blk (hS.bx2 (i:=1) rfl [] (by decide) hF) isAgg77 sizeOf77 e1)<|mp (.slice (some ad59) x33.length c40) (pu_move e5)<|mp (iv o) (pu_move e6) ?_
 obtain ⟨z81,h82,hb⟩:=bd hb
 refine mp (iv z81) (pu_addc (a:=o) (b:=1) rfl rfl h82)<|mp (.slice (some ad59) x33.length c40) (pu_move e5)<|mp (iv (x33.length:Int)) (pu_len (A:=(some ad59)) (n:=x33.length) (m:=c40) underlying116 rfl) ?_
 obtain ⟨u83,h84,hb⟩:=bd hb
 refine mp (iv (Int.tmod z81 (x33.length:Int))) (pu_remc (a:=z81) (b:=(x33.length:Int)) rfl rfl h84) ?_
 obtain ⟨x85,h86,hb⟩:=bd hb
 obtain ⟨ad87,cs88,hA,ho91,hc89,hr90⟩:=hS.elr2 (i:=5) rfl (get_some h86).2 []
 obtain rfl:=Option.some.inj hA
 refine mp (.pointer (some (ad59.add ((Int.tmod z81 (x33.length:Int)).toNat*2)))) (pu_index (a:=(Int.tmod z81 (x33.length:Int))) underlying116 sizeOf119 rfl rfl (get_some h86).1) ?_
 obtain ⟨k92,k93,rfl,hr94,hr95⟩:=hr90
 obtain ⟨rfl,hr94⟩:=hr94
 obtain rfl:=(show _=_ from hr95)
 refine mixE.load hM (v:=.agg #[iv x85.1,.bool x85.2]) (fun _ hF=>ld_agg isAgg119 sizeOf119 rfl rfl (fun j u hu=>hF.cell (hc89 j u hu) (off2 ho91))) ?_
 obtain ⟨y96,h97,hb⟩:=bd hb
 refine mixE.cl hM (⟨_,_,op_call (vs:=[.agg #[.slice (some ad35) c.length d,.slice g f.length h,iv p],.agg #[iv x85.1,.bool x85.2]]) call101 rfl rfl rfl,gauss_ends_ok n hC.lt (hC.rd (i:=2) rfl) (hC.rd (i:=3) rfl) J (wrap_I64 hr94) h97⟩) ?_
 rintro _ w100 ⟨rfl,hr98,hr99,hK⟩
 replace hM:=hM.none hK.fr
 refine ⟨hM,?_⟩
 replace hC:=hC.merge hK
 clear hK
 refine mp (.tuple #[iv y96.1,iv y96.2]) (pu_move rfl)<|mp (iv y96.1) (pu_extract rfl rfl)<|mp (iv y96.2) (pu_extract rfl rfl)<|mp (iv y96.1) (pu_assign rfl)<|mp (iv y96.2) (pu_assign rfl)<|mixE.nil ?_
 clear hS hM
 refine hK78 _ _<|Wc.fresh fun E101 hE=>?_
 have e1:=cg hE 1 e1
 have e2:=cg hE 2 e2
 have e3:=cg hE 3 e3
 have e5:=cg hE 5 e5
 have e6:=cg hE 6 e6
 have e7:=cg hE 7 e7
 have e9:=cg hE 9 e9
 have e10:E101 10=iv y96.1:=cg hE 10 rfl
 have e18:=cg hE 18 e18
 have e19:=cg hE 19 e19
 have e20:=cg hE 20 e20
 have e21:=cg hE 21 e21
 have e24:=cg hE 24 e24
 have e25:=cg hE 25 e25
 have e26:=cg hE 26 e26
 have e27:=cg hE 27 e27
 clear hE
 refine Wc.seq fun _ hK102=>rg<|lp _ (pu_move e3)<|lp _ (pu_move e9)<|lp _ (pu_move e10) ?_
 obtain ⟨x103,h104,hb⟩:=bd hb
 obtain ⟨ad105,cs106,hA,hc107,hr108⟩:=hC.elo (i:=4) rfl (get_some h104).2
 subst hA
 refine lp (.pointer (some (ad105.add (y72.2.toNat*1)))) (pu_index (a:=y72.2) underlying30 sizeOf3 rfl rfl (by rw [(hC.ow (i:=4) rfl).sl_len.1]; exact (get_some h104).1))<|lex.sk (hC.put (i:=4) rfl rfl sizeOf3 (k:=y72.2.toNat) (a:=y96.1) (by have:=(get_some h104).1; simp at this⊢; omega) (⟨rfl,I64.wr hr98⟩) rfl rfl rfl) ?_
 rintro w109 ⟨hC,hF⟩
 refine ln (hK102 _ _ ?_)
 refine rg<|lp _ (pu_move e3)<|lp _ (pu_move e10)<|lp _ (pu_move e9) ?_
 obtain ⟨x110,h111,hb⟩:=bd hb
 obtain ⟨ad112,cs113,hA,hc114,hr115⟩:=hC.elo (i:=4) rfl (get_some h111).2
 obtain rfl:=Option.some.inj hA
 refine lp (.pointer (some (ad105.add (y96.1.toNat*1)))) (pu_index (a:=y96.1) underlying30 sizeOf3 rfl rfl (by rw [(hC.ow (i:=4) rfl).sl_len.1]; exact (get_some h111).1))<|lex.sk (hC.put (i:=4) rfl rfl sizeOf3 (k:=y96.1.toNat) (a:=y72.2) (by have:=(get_some h111).1; simp at this⊢; omega) (⟨rfl,I64.wr hr75⟩) rfl rfl rfl) ?_
 rintro w116 ⟨hC,hF⟩
 refine ln (hK55 _ _ ?_)
 refine rg ?_
 obtain ⟨z117,h118,hb⟩:=bd hb
 refine lp (iv z117) (pu_addc (a:=o) (b:=1) e26 rfl h118)<|lp (iv z117) (pu_move rfl)<|ln ?_
 obtain rfl:=os hb
 exact hK47 m48' _ _ (Nat.lt_succ_self _) ⟨z117,((q.set y72.2.toNat y96.1).set y96.1.toNat y72.2),e1,e2,e3,e5,e18,e19,e20,e21,e24,e25,rfl,(chk_rng h118),hC.sE [1,2,3,4,5],lN hl1⟩
 replace hb:=tf hq54 hb
 refine Wc.exit rfl ?_
 obtain rfl:=os hb
 obtain rfl:=(lX hl1).symm
 exact hK46 _ _ ⟨o,q,e1,e2,e3,e5,e18,e19,e20,e21,e24,e25,e26,B,hC.sE [0,1,2,3,4],hbK1⟩
 clear hb hC hl1
 rintro E120 w119 ⟨o,q,e1,e2,e3,e5,e18,e19,e20,e21,e24,e25,e26,B,hC,hb⟩
 refine hK31 _ _<|rg ?_
 obtain ⟨z121,h122,hb⟩:=bd hb
 refine lp (iv z121) (pu_addc (a:=l) (b:=1) e20 rfl h122)<|lp (iv z121) (pu_move rfl)<|ln ?_
 obtain rfl:=os hb
 exact hK23 m24' _ _ (Nat.lt_succ_self _) ⟨z121,q,e1,e2,e3,e18,e19,rfl,(chk_rng h122),hC.sE [0,1,2,3],lN hl0⟩
 replace hb:=tf hq30 hb
 refine Wc.exit rfl ?_
 obtain rfl:=os hb
 obtain rfl:=(lX hl0).symm
 exact hK22 _ _ ⟨l,y,e2,e3,z,hC.sE [3],hbK0⟩
 clear hb hC hl0
 rintro E124 w123 ⟨l,y,e2,e3,z,hC,hb⟩
 subst hf21
 refine hK18 _ _<|Wc.seq fun _ hK125=>rg<|lp _ (pu_move e3)<|lp (.slice A12 (((rZ z8)).length) c13) (pu_assign rfl)<|ln (hK125 _ _ ?_)
 obtain rfl:=os hb
 refine Wc.ret (hKR _ _ ?_)
 refine ⟨_,res1 results84 (tV (.slice A12 (((rZ z8)).length) c13) rfl),_,rfl,A12,((rZ z8)).length,c13,rfl,hC.sE [0]⟩

theorem diagram_Turn_ok (n:Nat) {w:World} {O0:List Nat} (hO: ∀k∈O0,k<w.heap.size) {c:Int} (g:I64 c) {d:Int} (f:I64 d) {r:Int} (hb:F.diagram_Turn n c d=some r):
    Calls prog 89 #[iv c,iv d] w fun e w'=> ∃v,e=.returned v∧v=iv r∧I64 r∧Cx (fun _=>False) O0 w w' []:=by
 unfold F.diagram_Turn at hb
 have hC:=Cx.start hO
 clear hO
 refine calls_of_Wc func89 rfl (by rw [ntmps89]; exact nb rfl) fun KR hKR=>?_
 refine Wc.seq fun _ hK1=>rg<|lp (iv 0) (pu_assign rfl)<|ln (hK1 _ _ ?_)
 refine Wc.seq fun _ hK2=>?_
 refine Wc.seq fun _ hK3=>rg<|lp (iv c) (pu_move rfl)<|lp (.bool (decide (c<0))) (pu_lss (k:=.i64) (a:=c) (b:=0) rfl rfl)<|ln (hK3 _ _ ?_)
 refine Wc.cond (t:=(decide (c<0))) (rfl) (fun hq4=>?_) (fun hq4=>?_)
 replace hb:=tt hq4 hb
 refine Wc.seq fun _ hK5=>rg<|lp (iv (-1)) (pu_assign rfl)<|ln (hK5 _ _ ?_)
 obtain rfl:=os hb
 refine Wc.ret (hKR _ _ ?_)
 refine ⟨_,res1 results89 (tV (iv (-1)) rfl),_,rfl,rfl,(show I64 (-1) from by unfold I64; omega),hC.sE []⟩
 replace hb:=tf hq4 hb
 refine Wc.skip (hK2 _ _ ?_)
 refine Wc.seq fun _ hK6=>rg<|lp (iv c) (pu_move rfl)<|lp (iv c) (pu_move rfl) ?_
 obtain ⟨u7,h8,hb⟩:=bd hb
 refine lp (iv (Int.tmod c 4)) (pu_remc (a:=c) (b:=4) rfl rfl h8) ?_
 obtain ⟨z9,h10,hb⟩:=bd hb
 refine lp (iv z9) (pu_subc (a:=c) (b:=(Int.tmod c 4)) rfl rfl h10)<|lp (iv c) (pu_move rfl) ?_
 obtain ⟨u11,h12,hb⟩:=bd hb
 refine lp (iv (Int.tmod c 4)) (pu_remc (a:=c) (b:=4) rfl rfl h12)<|lp (iv d) (pu_move rfl) ?_
 obtain ⟨u13,h14,hb⟩:=bd hb
 refine lp (iv (Int.tmod d 4)) (pu_remc (a:=d) (b:=4) rfl rfl h14) ?_
 obtain ⟨z15,h16,hb⟩:=bd hb
 refine lp (iv z15) (pu_addc (a:=(Int.tmod c 4)) (b:=(Int.tmod d 4)) rfl rfl h16) ?_
 obtain ⟨z17,h18,hb⟩:=bd hb
 refine lp (iv z17) (pu_addc (a:=z15) (b:=4) rfl rfl h18) ?_
 obtain ⟨u19,h20,hb⟩:=bd hb
 refine lp (iv (Int.tmod z17 4)) (pu_remc (a:=z17) (b:=4) rfl rfl h20) ?_
 obtain ⟨z21,h22,hb⟩:=bd hb
 refine lp (iv z21) (pu_addc (a:=z9) (b:=(Int.tmod z17 4)) rfl rfl h22)<|lp (iv z21) (pu_assign rfl)<|ln (hK6 _ _ ?_)
 obtain rfl:=os hb
 refine Wc.ret (hKR _ _ ?_)
 refine ⟨_,res1 results89 (tV (iv z21) rfl),_,rfl,rfl,(chk_rng h22),hC.sE []⟩

theorem gauss_genus_ok (n:Nat) {w:World} {O0:List Nat} (hO: ∀k∈O0,k<w.heap.size) {f:Option Addr} {S g:Nat} {c:List Int} (T:Rep O0 w (.sl si) [.slice f S g] c) {r:Int} (hb:F.gauss_genus n c=some r):
    Calls prog 85 #[.slice f S g] w fun e w'=> ∃v,e=.returned v∧v=iv r∧I64 r∧Cx (fun _=>False) O0 w w' []:=by
 unfold F.gauss_genus at hb
 have hC:=Cx.start hO
 replace hC:=hC.arg rfl T
 clear hO
 obtain ⟨rfl,a1,a2⟩:=T.sl_len
 refine calls_of_Wc func85 rfl (by rw [ntmps85]; exact nb rfl) fun KR hKR=>?_
 refine Wc.seq fun _ hK2=>rg<|lp (iv 0) (pu_assign rfl)<|ln (hK2 _ _ ?_)
 refine Wc.seq fun _ hK3=>rg<|lp (.slice f c.length g) (pu_move rfl)<|lp (iv (c.length:Int)) (pu_len (A:=f) (n:=c.length) (m:=g) underlying30 rfl) ?_
 obtain ⟨u4,h5,hb⟩:=bd hb
 obtain ⟨z6,h7,hb⟩:=bd hb
 refine lp (iv z6) (pu_quoc (a:=(c.length:Int)) (b:=4) rfl rfl h5 h7)<|lp (iv z6) (pu_assign rfl)<|ln (hK3 _ _ ?_)
 refine Wc.seq fun _ hK8=>rg<|lp (iv 0) (pu_assign rfl)<|lp (iv 0) (pu_assign rfl)<|ln (hK8 _ _ ?_)
 refine Wc.seq fun _ hK9=>rg<|lp (.slice f c.length g) (pu_move rfl)<|lp (iv (c.length:Int)) (pu_len (A:=f) (n:=c.length) (m:=g) underlying30 rfl) ?_
 obtain ⟨u10,h11,hb⟩:=bd hb
 refine lex.op (hC.make (s:=.bool) (n:=(c.length:Int)) underlying122 type4 rfl rfl rfl rfl rfl (pos_some h11).1 (pos_some h11).2 (by decide)) ?_
 rintro _ w16 ⟨A12,c13,rfl,hl14,hc15,hC,-,-⟩
 refine lp (.slice A12 (((List.replicate (c.length:Int).toNat false)).length) c13) (pu_assign rfl)<|ln (hK9 _ _ ?_)
 refine Wc.fresh fun E18 hE=>?_
 have e0:E18 0=.slice f c.length g:=cg hE 0 rfl
 have e2:E18 2=iv 0:=cg hE 2 rfl
 have e3:E18 3=iv z6:=cg hE 3 rfl
 have e4:E18 4=iv 0:=cg hE 4 rfl
 have e5:E18 5=iv 0:=cg hE 5 rfl
 have e6:E18 6=.slice A12 (((List.replicate (c.length:Int).toNat false)).length) c13:=cg hE 6 rfl
 clear hE
 refine Wc.seq fun _ hK19=>?_
 refine Wc.seq fun _ hK20=>rg<|lp _ (pu_move e0)<|lp (iv (c.length:Int)) (pu_len (A:=f) (n:=c.length) (m:=g) underlying30 rfl)<|lp (iv 0) (pu_move rfl)<|ln (hK20 _ _ ?_)
 obtain ⟨o21,hl0,f21,hf21,hb⟩:=bn hb
 refine Wc.cut (fun E wv=> ∃(u:Int) (h:Int) (H:List Bool),E 0=.slice f c.length g∧E 2=iv 0∧E 3=iv z6∧E 4=iv u∧E 5=iv 0∧I64 u∧I64 h∧Cx (fun _=>False) O0 w wv [.ro (.sl si) [.slice f c.length g] c]∧f21 (u,h,H)=some r) (fun _ hK22=>?_) ?_
 refine Wc.block ?_
 refine Wc.loop (fun m E wv=> ∃(u:Int) (h:Int) (H:List Bool),E 0=.slice f c.length g∧E 2=iv 0∧E 3=iv z6∧E 4=iv u∧E 5=iv 0∧E 6=.slice A12 (((List.replicate (c.length:Int).toNat false)).length) c13∧E 22=iv (c.length:Int)∧E 23=iv h∧I64 u∧I64 h∧Cx (fun _=>False) O0 w wv [.ro (.sl si) [.slice f c.length g] c,.own 4 .bool (.slice A12 (((List.replicate (c.length:Int).toNat false)).length) c13) H]∧loopN m (F.gauss_genus_b0 n c) (u,h,H)=some o21) n ⟨0,0,(List.replicate (c.length:Int).toNat false),e0,e2,e3,e4,e5,e6,rfl,rfl,(show I64 0 from by unfold I64; omega),(show I64 0 from by unfold I64; omega),hC.sE [1,0],hl0⟩ ?_
 have hbK0:=hb
 clear hb hC hl0
 rintro m24 E26 w25 ⟨u,h,H,e0,e2,e3,e4,e5,e6,e22,e23,Q,N,hC,hl0⟩ K23 hK23
 obtain ⟨m24',o27,rfl,hb,hl0⟩:=loopN_some hl0
 unfold F.gauss_genus_b0 at hb
 refine Wc.seq fun _ hK28=>rg<|lp _ (pu_lss e23 e22)<|ln (hK28 _ _ ?_)
 refine Wc.seq fun _ hK29=>?_
 refine Wc.cond (t:=(decide (h<(c.length:Int)))) (rfl) (fun hq30=>?_) (fun hq30=>?_)
 replace hb:=tt hq30 hb
 refine Wc.skip (hK29 _ _ ?_)
 refine Wc.seq fun _ hK31=>?_
 refine Wc.block<|Wc.seq fun _ hK32=>rg<|lp _ (pu_move e23)<|lp (iv h) (pu_assign rfl)<|ln (hK32 _ _ ?_)
 refine Wc.seq fun _ hK33=>?_
 refine Wc.seq fun _ hK34=>rg<|lp _ (pu_move e6)<|lp (iv h) (pu_move rfl) ?_
 obtain ⟨x35,h36,hb⟩:=bd hb
 obtain ⟨ad37,cs38,hA,hc39,hr40⟩:=hC.elo (i:=1) rfl (get_some h36).2
 subst hA
 refine lp (.pointer (some (ad37.add (h.toNat*1)))) (pu_index (a:=h) underlying122 sizeOf4 rfl rfl (by rw [(hC.ow (i:=1) rfl).sl_len.1]; exact (get_some h36).1)) ?_
 obtain rfl:=(show _=_ from hr40)
 refine lv (.bool x35) (ld_one isAgg4 rfl (hc39 0 _ rfl))<|ln (hK34 _ _ ?_)
 refine Wc.cond (t:=x35) (rfl) (fun hq41=>?_) (fun hq41=>?_)
 replace hb:=tt hq41 hb
 refine Wc.exit rfl ?_
 refine hK31 _ _<|rg ?_
 obtain ⟨z42,h43,hb⟩:=bd hb
 refine lp (iv z42) (pu_addc (a:=h) (b:=1) e23 rfl h43)<|lp (iv z42) (pu_move rfl)<|ln ?_
 obtain rfl:=os hb
 exact hK23 m24' _ _ (Nat.lt_succ_self _) ⟨u,z42,H,e0,e2,e3,e4,e5,e6,e22,rfl,Q,(chk_rng h43),hC.sE [0,1],lN hl0⟩
 replace hb:=tf hq41 hb
 refine Wc.skip (hK33 _ _ ?_)
 refine Wc.seq fun _ hK44=>rg<|lp _ (pu_move e4) ?_
 obtain ⟨z45,h46,hb⟩:=bd hb
 refine lp (iv z45) (pu_addc (a:=u) (b:=1) rfl rfl h46)<|lp (iv z45) (pu_assign rfl)<|ln (hK44 _ _ ?_)
 refine Wc.fresh fun E47 hE=>?_
 have e0:=cg hE 0 e0
 have e2:=cg hE 2 e2
 have e3:=cg hE 3 e3
 have e4:E47 4=iv z45:=cg hE 4 rfl
 have e5:=cg hE 5 e5
 have e6:=cg hE 6 e6
 have e7:E47 7=iv h:=cg hE 7 rfl
 have e22:=cg hE 22 e22
 have e23:=cg hE 23 e23
 have e24:E47 24=.bool (decide (h<(c.length:Int))):=cg hE 24 rfl
 have e29:E47 29=.bool x35:=cg hE 29 rfl
 clear hE
 refine Wc.seq fun _ hK48=>rg<|lp _ (pu_move e7)<|lp (iv h) (pu_assign rfl)<|ln (hK48 _ _ ?_)
 obtain ⟨o49,hl1,hb⟩:=bd hb
 refine Wc.cut (fun E wv=> ∃(x:Int) (z:List Bool),E 0=.slice f c.length g∧E 2=iv 0∧E 3=iv z6∧E 4=iv z45∧E 5=iv 0∧E 6=.slice (some ad37) (((List.replicate (c.length:Int).toNat false)).length) c13∧E 7=iv h∧E 8=iv x∧E 22=iv (c.length:Int)∧E 23=iv h∧E 24=.bool (decide (h<(c.length:Int)))∧E 29=.bool x35∧I64 x∧Cx (fun _=>False) O0 w wv [.ro (.sl si) [.slice f c.length g] c,.own 4 .bool (.slice (some ad37) (((List.replicate (c.length:Int).toNat false)).length) c13) z]∧((chk (h+1)).bind fun z85=>some (.inl (z45,z85,z)):Option ((Int×Int×(List Bool))⊕((Int×Int×(List Bool)))))=some o27) (fun _ hK50=>?_) ?_
 refine Wc.block ?_
 refine Wc.loop (fun m E wv=> ∃(x:Int) (z:List Bool),E 0=.slice f c.length g∧E 2=iv 0∧E 3=iv z6∧E 4=iv z45∧E 5=iv 0∧E 6=.slice (some ad37) (((List.replicate (c.length:Int).toNat false)).length) c13∧E 7=iv h∧E 8=iv x∧E 22=iv (c.length:Int)∧E 23=iv h∧E 24=.bool (decide (h<(c.length:Int)))∧E 29=.bool x35∧I64 x∧Cx (fun _=>False) O0 w wv [.ro (.sl si) [.slice f c.length g] c,.own 4 .bool (.slice (some ad37) (((List.replicate (c.length:Int).toNat false)).length) c13) z]∧loopN m (F.gauss_genus_b1 n c) (x,z)=some o49) n ⟨h,H,e0,e2,e3,e4,e5,e6,e7,rfl,e22,e23,e24,e29,N,hC.sE [0,1],hl1⟩ ?_
 have hbK1:=hb
 clear hb hC hl1
 rintro m52 E54 w53 ⟨x,z,e0,e2,e3,e4,e5,e6,e7,e8,e22,e23,e24,e29,V,hC,hl1⟩ K51 hK51
 obtain ⟨m52',o55,rfl,hb,hl1⟩:=loopN_some hl1
 unfold F.gauss_genus_b1 at hb
 refine Wc.seq fun _ hK56=>?_
 refine Wc.seq fun _ hK57=>rg<|lp _ (pu_move e6)<|lp _ (pu_move e8) ?_
 obtain ⟨x58,h59,hb⟩:=bd hb
 obtain ⟨ad60,cs61,hA,hc62,hr63⟩:=hC.elo (i:=1) rfl (get_some h59).2
 obtain rfl:=Option.some.inj hA
 refine lp (.pointer (some (ad37.add (x.toNat*1)))) (pu_index (a:=x) underlying122 sizeOf4 rfl rfl (by rw [(hC.ow (i:=1) rfl).sl_len.1]; exact (get_some h59).1)) ?_
 obtain rfl:=(show _=_ from hr63)
 refine lv (.bool x58) (ld_one isAgg4 rfl (hc62 0 _ rfl))<|lp (.bool (!x58)) (pu_not (q:=x58) rfl)<|ln (hK57 _ _ ?_)
 refine Wc.cond (t:=(!x58)) (rfl) (fun hq64=>?_) (fun hq64=>?_)
 replace hb:=tt hq64 hb
 refine Wc.skip (hK56 _ _ ?_)
 refine Wc.seq fun _ hK65=>?_
 refine Wc.block<|rg<|lp _ (pu_move e6)<|lp _ (pu_move e8) ?_
 obtain ⟨x66,h67,hb⟩:=bd hb
 obtain ⟨ad68,cs69,hA,hc70,hr71⟩:=hC.elo (i:=1) rfl (get_some h67).2
 obtain rfl:=Option.some.inj hA
 refine lp (.pointer (some (ad37.add (x.toNat*1)))) (pu_index (a:=x) underlying122 sizeOf4 rfl rfl (by rw [(hC.ow (i:=1) rfl).sl_len.1]; exact (get_some h67).1))<|lex.sk (hC.put (i:=1) rfl rfl sizeOf4 (k:=x.toNat) (a:=true) (by have:=(get_some h67).1; simp at this⊢; omega) (show Rep _ _ .bool _ _ from rfl) rfl rfl rfl) ?_
 rintro w72 ⟨hC,hF⟩
 refine ln (hK65 _ _ ?_)
 refine rg<|lp _ (pu_move e0)<|lp _ (pu_move e8) ?_
 obtain ⟨x73,h74,hb⟩:=bd hb
 obtain ⟨ad75,cs76,hA,hc77,hr78⟩:=hC.elr (i:=0) rfl (get_some h74).2
 subst hA
 refine lp (.pointer (some (ad75.add (x.toNat*1)))) (pu_index (a:=x) underlying30 sizeOf3 rfl rfl (get_some h74).1) ?_
 obtain ⟨rfl,hr78'⟩:=hr78
 refine lv (iv x73) (ld_one isAgg3 rfl (hc77 0 _ rfl)) ?_
 obtain ⟨y79,h80,hb⟩:=bd hb
 refine lex.cl (⟨_,_,op_call (vs:=[iv x73,iv (-1)]) call89 rfl rfl rfl,diagram_Turn_ok n hC.lt (wrap_I64 hr78') (show I64 (-1) from by unfold I64; omega) h80⟩) ?_
 rintro _ w82 ⟨rfl,hr81,hK⟩
 replace hC:=hC.merge hK
 clear hK
 refine lp (iv y79) (pu_assign rfl)<|ln ?_
 obtain rfl:=os hb
 exact hK51 m52' _ _ (Nat.lt_succ_self _) ⟨y79,(z.set x.toNat true),e0,e2,e3,e4,e5,e6,e7,rfl,e22,e23,e24,e29,hr81,hC.sE [0,1],lN hl1⟩
 replace hb:=tf hq64 hb
 refine Wc.exit rfl ?_
 obtain rfl:=os hb
 obtain rfl:=(lX hl1).symm
 exact hK50 _ _ ⟨x,z,e0,e2,e3,e4,e5,e6,e7,e8,e22,e23,e24,e29,V,hC.sE [0,1],hbK1⟩
 clear hb hC hl1
 rintro E84 w83 ⟨x,z,e0,e2,e3,e4,e5,e6,e7,e8,e22,e23,e24,e29,V,hC,hb⟩
 refine hK31 _ _<|rg ?_
 obtain ⟨z85,h86,hb⟩:=bd hb
 refine lp (iv z85) (pu_addc (a:=h) (b:=1) e23 rfl h86)<|lp (iv z85) (pu_move rfl)<|ln ?_
 obtain rfl:=os hb
 exact hK23 m24' _ _ (Nat.lt_succ_self _) ⟨z45,z85,z,e0,e2,e3,e4,e5,e6,e22,rfl,(chk_rng h46),(chk_rng h86),hC.sE [0,1],lN hl0⟩
 replace hb:=tf hq30 hb
 refine Wc.exit rfl ?_
 obtain rfl:=os hb
 obtain rfl:=(lX hl0).symm
 exact hK22 _ _ ⟨u,h,H,e0,e2,e3,e4,e5,Q,N,hC.sE [0],hbK0⟩
 clear hb hC hl0
 rintro E88 w87 ⟨u,h,H,e0,e2,e3,e4,e5,Q,N,hC,hb⟩
 subst hf21
 refine hK19 _ _<|Wc.seq fun _ hK89=>rg<|lp _ (pu_move e3) ?_
 obtain ⟨u90,h91,hb⟩:=bd hb
 refine lex.op (hC.make (s:=.bool) (n:=z6) underlying122 type4 rfl rfl rfl rfl rfl (pos_some h91).1 (pos_some h91).2 (by decide)) ?_
 rintro _ w96 ⟨A92,c93,rfl,hl94,hc95,hC,-,-⟩
 refine lp (.slice A92 (((List.replicate z6.toNat false)).length) c93) (pu_assign rfl)<|ln (hK89 _ _ ?_)
 refine Wc.seq fun _ hK98=>?_
 refine Wc.seq fun _ hK99=>rg<|lp _ (pu_move e3)<|lp (iv 0) (pu_move rfl)<|ln (hK99 _ _ ?_)
 obtain ⟨o100,hl2,f100,hf100,hb⟩:=bn hb
 refine Wc.cut (fun E wv=> ∃(K:Int) (d:Int) (J:List Bool),E 2=iv 0∧E 3=iv z6∧E 4=iv u∧E 5=iv K∧I64 K∧I64 d∧Cx (fun _=>False) O0 w wv []∧f100 (K,d,J)=some r) (fun _ hK101=>?_) ?_
 refine Wc.block ?_
 refine Wc.loop (fun m E wv=> ∃(K:Int) (d:Int) (J:List Bool),E 0=.slice f c.length g∧E 2=iv 0∧E 3=iv z6∧E 4=iv u∧E 5=iv K∧E 9=.slice A92 (((List.replicate z6.toNat false)).length) c93∧E 49=iv z6∧E 50=iv d∧I64 K∧I64 d∧Cx (fun _=>False) O0 w wv [.ro (.sl si) [.slice f c.length g] c,.own 4 .bool (.slice A92 (((List.replicate z6.toNat false)).length) c93) J]∧loopN m (F.gauss_genus_b2 n c z6) (K,d,J)=some o100) n ⟨0,0,(List.replicate z6.toNat false),e0,e2,e3,e4,e5,rfl,rfl,rfl,(show I64 0 from by unfold I64; omega),(show I64 0 from by unfold I64; omega),hC.sE [1,0],hl2⟩ ?_
 have hbK2:=hb
 clear hb hC hl2
 rintro m103 E105 w104 ⟨K,d,J,e0,e2,e3,e4,e5,e9,e49,e50,R,P,hC,hl2⟩ K102 hK102
 obtain ⟨m103',o106,rfl,hb,hl2⟩:=loopN_some hl2
 unfold F.gauss_genus_b2 at hb
 refine Wc.seq fun _ hK107=>rg<|lp _ (pu_lss e50 e49)<|ln (hK107 _ _ ?_)
 refine Wc.seq fun _ hK108=>?_
 refine Wc.cond (t:=(decide (d<z6))) (rfl) (fun hq109=>?_) (fun hq109=>?_)
 replace hb:=tt hq109 hb
 refine Wc.skip (hK108 _ _ ?_)
 refine Wc.seq fun _ hK110=>?_
 refine Wc.block<|Wc.seq fun _ hK111=>rg<|lp _ (pu_move e50)<|lp (iv d) (pu_assign rfl)<|ln (hK111 _ _ ?_)
 refine Wc.seq fun _ hK112=>?_
 refine Wc.seq fun _ hK113=>rg<|lp _ (pu_move e9)<|lp (iv d) (pu_move rfl) ?_
 obtain ⟨x114,h115,hb⟩:=bd hb
 obtain ⟨ad116,cs117,hA,hc118,hr119⟩:=hC.elo (i:=1) rfl (get_some h115).2
 subst hA
 refine lp (.pointer (some (ad116.add (d.toNat*1)))) (pu_index (a:=d) underlying122 sizeOf4 rfl rfl (by rw [(hC.ow (i:=1) rfl).sl_len.1]; exact (get_some h115).1)) ?_
 obtain rfl:=(show _=_ from hr119)
 refine lv (.bool x114) (ld_one isAgg4 rfl (hc118 0 _ rfl))<|ln (hK113 _ _ ?_)
 refine Wc.cond (t:=x114) (rfl) (fun hq120=>?_) (fun hq120=>?_)
 replace hb:=tt hq120 hb
 refine Wc.exit rfl ?_
 refine hK110 _ _<|rg ?_
 obtain ⟨z121,h122,hb⟩:=bd hb
 refine lp (iv z121) (pu_addc (a:=d) (b:=1) e50 rfl h122)<|lp (iv z121) (pu_move rfl)<|ln ?_
 obtain rfl:=os hb
 exact hK102 m103' _ _ (Nat.lt_succ_self _) ⟨K,z121,J,e0,e2,e3,e4,e5,e9,e49,rfl,R,(chk_rng h122),hC.sE [0,1],lN hl2⟩
 replace hb:=tf hq120 hb
 refine Wc.skip (hK112 _ _ ?_)
 refine Wc.seq fun _ hK123=>rg<|lp _ (pu_move e5) ?_
 obtain ⟨z124,h125,hb⟩:=bd hb
 refine lp (iv z124) (pu_addc (a:=K) (b:=1) rfl rfl h125)<|lp (iv z124) (pu_assign rfl)<|ln (hK123 _ _ ?_)
 refine Wc.fresh fun E126 hE=>?_
 have e0:=cg hE 0 e0
 have e2:=cg hE 2 e2
 have e3:=cg hE 3 e3
 have e4:=cg hE 4 e4
 have e5:E126 5=iv z124:=cg hE 5 rfl
 have e9:=cg hE 9 e9
 have e10:E126 10=iv d:=cg hE 10 rfl
 have e49:=cg hE 49 e49
 have e50:=cg hE 50 e50
 have e51:E126 51=.bool (decide (d<z6)):=cg hE 51 rfl
 have e56:E126 56=.bool x114:=cg hE 56 rfl
 clear hE
 refine Wc.seq fun _ hK127=>rg<|lp _ (pu_move e9)<|lp _ (pu_move e10) ?_
 obtain ⟨x128,h129,hb⟩:=bd hb
 obtain ⟨ad130,cs131,hA,hc132,hr133⟩:=hC.elo (i:=1) rfl (get_some h129).2
 obtain rfl:=Option.some.inj hA
 refine lp (.pointer (some (ad116.add (d.toNat*1)))) (pu_index (a:=d) underlying122 sizeOf4 rfl rfl (by rw [(hC.ow (i:=1) rfl).sl_len.1]; exact (get_some h129).1))<|lex.sk (hC.put (i:=1) rfl rfl sizeOf4 (k:=d.toNat) (a:=true) (by have:=(get_some h129).1; simp at this⊢; omega) (show Rep _ _ .bool _ _ from rfl) rfl rfl rfl) ?_
 rintro w134 ⟨hC,hF⟩
 refine ln (hK127 _ _ ?_)
 refine Wc.seq fun _ hK135=>rg<|lp _ (pu_move e10)<|lex.op (hC.lit (s:=si) (vs:=[iv d]) (xs:=[d]) underlying30 type3 rfl rfl (nb rfl) rfl rfl (by simp [Value.cells,Sh.n]) rfl (show Elems _ _ si ([iv d]++([])) ([d]:List Int) from Elems.cons (⟨rfl,I64.wr P⟩) (Elems.nil _ _ _))) ?_
 rintro _ w140 ⟨A136,c137,rfl,hl138,hc139,hC,-,-⟩
 refine lp (.slice A136 ((([d]:List Int)).length) c137) (pu_assign rfl)<|ln (hK135 _ _ ?_)
 obtain ⟨o142,hl3,hb⟩:=bd hb
 refine Wc.cut (fun E wv=> ∃(j:List Int) (B:List Bool) (C:Option Addr) (L o:Nat),E 0=.slice f c.length g∧E 2=iv 0∧E 3=iv z6∧E 4=iv u∧E 5=iv z124∧E 9=.slice (some ad116) (((List.replicate z6.toNat false)).length) c93∧E 10=iv d∧E 11=.slice C L o∧E 49=iv z6∧E 50=iv d∧E 51=.bool (decide (d<z6))∧E 56=.bool x114∧Cx (fun _=>False) O0 w wv [.ro (.sl si) [.slice f c.length g] c,.own 4 .bool (.slice (some ad116) (((List.replicate z6.toNat false)).length) c93) B,.own 3 si (.slice C L o) j]∧((chk (d+1)).bind fun z235=>some (.inl (z124,z235,B)):Option ((Int×Int×(List Bool))⊕((Int×Int×(List Bool)))))=some o106) (fun _ hK143=>?_) ?_
 refine Wc.block ?_
 refine Wc.loop (fun m E wv=> ∃(j:List Int) (B:List Bool) (C:Option Addr) (L o:Nat),E 0=.slice f c.length g∧E 2=iv 0∧E 3=iv z6∧E 4=iv u∧E 5=iv z124∧E 9=.slice (some ad116) (((List.replicate z6.toNat false)).length) c93∧E 10=iv d∧E 11=.slice C L o∧E 49=iv z6∧E 50=iv d∧E 51=.bool (decide (d<z6))∧E 56=.bool x114∧Cx (fun _=>False) O0 w wv [.ro (.sl si) [.slice f c.length g] c,.own 4 .bool (.slice (some ad116) (((List.replicate z6.toNat false)).length) c93) B,.own 3 si (.slice C L o) j]∧loopN m (F.gauss_genus_b3 n c) (j,B)=some o142) n ⟨([d]:List Int),(J.set d.toNat true),A136,(([d]:List Int)).length,c137,e0,e2,e3,e4,e5,e9,e10,rfl,e49,e50,e51,e56,hC.sE [1,2,0],hl3⟩ ?_
 have hbK3:=hb
 clear hb hC hl3
 rintro m145 E147 w146 ⟨j,B,C,L,o,e0,e2,e3,e4,e5,e9,e10,e11,e49,e50,e51,e56,hC,hl3⟩ K144 hK144
 obtain ⟨m145',o148,rfl,hb,hl3⟩:=loopN_some hl3
 unfold F.gauss_genus_b3 at hb
 obtain ⟨rfl,X,Y⟩:=(hC.ow (i:=2) rfl).sl_len
 refine Wc.seq fun _ hK149=>?_
 refine Wc.seq fun _ hK150=>rg<|lp _ (pu_move e11)<|lp (iv (j.length:Int)) (pu_len (A:=C) (n:=j.length) (m:=o) underlying30 rfl)<|lp (.bool (decide (0<(j.length:Int)))) (pu_gtr (k:=.i64) (a:=(j.length:Int)) (b:=0) rfl rfl)<|ln (hK150 _ _ ?_)
 refine Wc.cond (t:=(decide (0<(j.length:Int)))) (rfl) (fun hq151=>?_) (fun hq151=>?_)
 replace hb:=tt hq151 hb
 refine Wc.skip (hK149 _ _ ?_)
 refine Wc.block<|Wc.seq fun _ hK152=>rg<|lp _ (pu_move e11)<|lp _ (pu_move e11)<|lp (iv (j.length:Int)) (pu_len (A:=C) (n:=j.length) (m:=o) underlying30 rfl) ?_
 obtain ⟨z153,h154,hb⟩:=bd hb
 refine lp (iv z153) (pu_subc (a:=(j.length:Int)) (b:=1) rfl rfl h154) ?_
 obtain ⟨x155,h156,hb⟩:=bd hb
 obtain ⟨ad157,cs158,hA,hc159,hr160⟩:=hC.elo (i:=2) rfl (get_some h156).2
 subst hA
 refine lp (.pointer (some (ad157.add (z153.toNat*1)))) (pu_index (a:=z153) underlying30 sizeOf3 rfl rfl (get_some h156).1) ?_
 obtain ⟨rfl,hr160'⟩:=hr160
 refine lv (iv x155) (ld_one isAgg3 rfl (hc159 0 _ rfl))<|lp (iv x155) (pu_assign rfl)<|ln (hK152 _ _ ?_)
 refine Wc.fresh fun E161 hE=>?_
 have e0:=cg hE 0 e0
 have e2:=cg hE 2 e2
 have e3:=cg hE 3 e3
 have e4:=cg hE 4 e4
 have e5:=cg hE 5 e5
 have e9:=cg hE 9 e9
 have e10:=cg hE 10 e10
 have e11:=cg hE 11 e11
 have e12:E161 12=iv x155:=cg hE 12 rfl
 have e49:=cg hE 49 e49
 have e50:=cg hE 50 e50
 have e51:=cg hE 51 e51
 have e56:=cg hE 56 e56
 have e66:E161 66=.bool (decide (0<(j.length:Int))):=cg hE 66 rfl
 clear hE
 refine Wc.seq fun _ hK162=>rg<|lp _ (pu_move e11)<|lp _ (pu_move e11)<|lp (iv (j.length:Int)) (pu_len (A:=(some ad157)) (n:=j.length) (m:=o) underlying30 rfl) ?_
 obtain ⟨z163,h164,hb⟩:=bd hb
 refine lp (iv z163) (pu_subc (a:=(j.length:Int)) (b:=1) rfl rfl h164) ?_
 obtain ⟨u165,h166,hb⟩:=bd hb
 refine lp (.slice (some ad157) ((j.take z163.toNat).length) o) (pu_cuth (b:=z163) underlying30 sizeOf3 rfl rfl (hC.ow (i:=2) rfl).sl_len (cut_some h166)) ?_
 replace hC:=hC.cuth (i:=2) rfl (k:=z163.toNat) (by have:=cut_some h166; omega)
 obtain ⟨-,hl167,hc168⟩:=(hC.ow (i:=2) rfl).sl_len
 refine lp (.slice (some ad157) ((j.take z163.toNat).length) o) (pu_assign rfl)<|ln (hK162 _ _ ?_)
 refine Wc.seq fun _ hK169=>rg<|lp (iv 0) (pu_move rfl)<|ln (hK169 _ _ ?_)
 obtain ⟨o170,hl4,hb⟩:=bd hb
 refine Wc.cut (fun E wv=> ∃(p:List Int) (l:Int) (y:List Bool) (D:Option Addr) (M G:Nat),E 0=.slice f c.length g∧E 2=iv 0∧E 3=iv z6∧E 4=iv u∧E 5=iv z124∧E 9=.slice (some ad116) (((List.replicate z6.toNat false)).length) c93∧E 10=iv d∧E 11=.slice D M G∧E 12=iv x155∧E 49=iv z6∧E 50=iv d∧E 51=.bool (decide (d<z6))∧E 56=.bool x114∧E 66=.bool (decide (0<(j.length:Int)))∧E 78=iv l∧I64 l∧Cx (fun _=>False) O0 w wv [.ro (.sl si) [.slice f c.length g] c,.own 4 .bool (.slice (some ad116) (((List.replicate z6.toNat false)).length) c93) y,.own 3 si (.slice D M G) p]∧(some (.inl (p,y)):Option (((List Int)×(List Bool))⊕(((List Int)×(List Bool)))))=some o148) (fun _ hK171=>?_) ?_
 refine Wc.block ?_
 refine Wc.loop (fun m E wv=> ∃(p:List Int) (l:Int) (y:List Bool) (D:Option Addr) (M G:Nat),E 0=.slice f c.length g∧E 2=iv 0∧E 3=iv z6∧E 4=iv u∧E 5=iv z124∧E 9=.slice (some ad116) (((List.replicate z6.toNat false)).length) c93∧E 10=iv d∧E 11=.slice D M G∧E 12=iv x155∧E 49=iv z6∧E 50=iv d∧E 51=.bool (decide (d<z6))∧E 56=.bool x114∧E 66=.bool (decide (0<(j.length:Int)))∧E 78=iv l∧I64 l∧Cx (fun _=>False) O0 w wv [.ro (.sl si) [.slice f c.length g] c,.own 4 .bool (.slice (some ad116) (((List.replicate z6.toNat false)).length) c93) y,.own 3 si (.slice D M G) p]∧loopN m (F.gauss_genus_b4 n c x155) (p,l,y)=some o170) n ⟨(j.take z163.toNat),0,B,(some ad157),(j.take z163.toNat).length,o,e0,e2,e3,e4,e5,e9,e10,rfl,e12,e49,e50,e51,e56,e66,rfl,(show I64 0 from by unfold I64; omega),hC.sE [0,1,2],hl4⟩ ?_
 have hbK4:=hb
 clear hb hC hl4
 rintro m173 E175 w174 ⟨p,l,y,D,M,G,e0,e2,e3,e4,e5,e9,e10,e11,e12,e49,e50,e51,e56,e66,e78,U,hC,hl4⟩ K172 hK172
 obtain ⟨m173',o176,rfl,hb,hl4⟩:=loopN_some hl4
 unfold F.gauss_genus_b4 at hb
 obtain ⟨rfl,Z,a0⟩:=(hC.ow (i:=2) rfl).sl_len
 refine Wc.seq fun _ hK177=>rg<|lp (.bool (decide (l<4))) (pu_lss (k:=.i64) (a:=l) (b:=4) e78 rfl)<|ln (hK177 _ _ ?_)
 refine Wc.seq fun _ hK178=>?_
 refine Wc.cond (t:=(decide (l<4))) (rfl) (fun hq179=>?_) (fun hq179=>?_)
 replace hb:=tt hq179 hb
 refine Wc.skip (hK178 _ _ ?_)
 refine Wc.seq fun _ hK180=>?_
 refine Wc.block<|Wc.seq fun _ hK181=>rg<|lp _ (pu_move e78)<|lp (iv l) (pu_assign rfl)<|ln (hK181 _ _ ?_)
 refine Wc.seq fun _ hK182=>rg<|lp _ (pu_move e0)<|lp _ (pu_move e12) ?_
 obtain ⟨z183,h184,hb⟩:=bd hb
 refine lp (iv z183) (pu_mulc (a:=4) (b:=x155) rfl rfl h184)<|lp (iv l) (pu_move rfl) ?_
 obtain ⟨z185,h186,hb⟩:=bd hb
 refine lp (iv z185) (pu_addc (a:=z183) (b:=l) rfl rfl h186) ?_
 obtain ⟨x187,h188,hb⟩:=bd hb
 obtain ⟨ad189,cs190,hA,hc191,hr192⟩:=hC.elr (i:=0) rfl (get_some h188).2
 subst hA
 refine lp (.pointer (some (ad189.add (z185.toNat*1)))) (pu_index (a:=z185) underlying30 sizeOf3 rfl rfl (get_some h188).1) ?_
 obtain ⟨rfl,hr192'⟩:=hr192
 refine lv (iv x187) (ld_one isAgg3 rfl (hc191 0 _ rfl)) ?_
 obtain ⟨u193,h194,hb⟩:=bd hb
 obtain ⟨z195,h196,hb⟩:=bd hb
 refine lp (iv z195) (pu_quoc (a:=x187) (b:=4) rfl rfl h194 h196)<|lp (iv z195) (pu_assign rfl)<|ln (hK182 _ _ ?_)
 refine Wc.fresh fun E197 hE=>?_
 have e0:=cg hE 0 e0
 have e2:=cg hE 2 e2
 have e3:=cg hE 3 e3
 have e4:=cg hE 4 e4
 have e5:=cg hE 5 e5
 have e9:=cg hE 9 e9
 have e10:=cg hE 10 e10
 have e11:=cg hE 11 e11
 have e12:=cg hE 12 e12
 have e13:E197 13=iv l:=cg hE 13 rfl
 have e14:E197 14=iv z195:=cg hE 14 rfl
 have e49:=cg hE 49 e49
 have e50:=cg hE 50 e50
 have e51:=cg hE 51 e51
 have e56:=cg hE 56 e56
 have e66:=cg hE 66 e66
 have e78:=cg hE 78 e78
 have e79:E197 79=.bool (decide (l<4)):=cg hE 79 rfl
 clear hE
 refine Wc.seq fun _ hK198=>rg<|lp _ (pu_move e9)<|lp _ (pu_move e14) ?_
 obtain ⟨x199,h200,hb⟩:=bd hb
 obtain ⟨ad201,cs202,hA,hc203,hr204⟩:=hC.elo (i:=1) rfl (get_some h200).2
 obtain rfl:=Option.some.inj hA
 refine lp (.pointer (some (ad116.add (z195.toNat*1)))) (pu_index (a:=z195) underlying122 sizeOf4 rfl rfl (by rw [(hC.ow (i:=1) rfl).sl_len.1]; exact (get_some h200).1)) ?_
 obtain rfl:=(show _=_ from hr204)
 refine lv (.bool x199) (ld_one isAgg4 rfl (hc203 0 _ rfl))<|lp (.bool (!x199)) (pu_not (q:=x199) rfl)<|ln (hK198 _ _ ?_)
 refine Wc.cond (t:=(!x199)) (rfl) (fun hq205=>?_) (fun hq205=>?_)
 replace hb:=tt hq205 hb
 refine Wc.seq fun _ hK206=>rg<|lp _ (pu_move e9)<|lp _ (pu_move e14) ?_
 obtain ⟨x207,h208,hb⟩:=bd hb
 obtain ⟨ad209,cs210,hA,hc211,hr212⟩:=hC.elo (i:=1) rfl (get_some h208).2
 obtain rfl:=Option.some.inj hA
 refine lp (.pointer (some (ad116.add (z195.toNat*1)))) (pu_index (a:=z195) underlying122 sizeOf4 rfl rfl (by rw [(hC.ow (i:=1) rfl).sl_len.1]; exact (get_some h208).1))<|lex.sk (hC.put (i:=1) rfl rfl sizeOf4 (k:=z195.toNat) (a:=true) (by have:=(get_some h208).1; simp at this⊢; omega) (show Rep _ _ .bool _ _ from rfl) rfl rfl rfl) ?_
 rintro w213 ⟨hC,hF⟩
 refine ln (hK206 _ _ ?_)
 refine rg<|lp _ (pu_move e11)<|lp _ (pu_move e14)<|lex.op (hC.lit (s:=si) (vs:=[iv z195]) (xs:=[z195]) underlying30 type3 rfl rfl (nb rfl) rfl rfl (by simp [Value.cells,Sh.n]) rfl (show Elems _ _ si ([iv z195]++([])) ([z195]:List Int) from Elems.cons (⟨rfl,I64.wr (chk_rng h196)⟩) (Elems.nil _ _ _))) ?_
 rintro _ w218 ⟨A214,c215,rfl,hl216,hc217,hC,-,-⟩
 obtain ⟨u220,h221,hb⟩:=bd hb
 refine lex.op (hC.app (i:=3) (s:=si) (xs:=p) (ys:=([z195]:List Int)) (m:=((([z195]:List Int)).length)) rfl underlying30 underlying30 type3 rfl rfl rfl (hC.srco (i:=0) rfl) rfl rfl (by have:=lim_some h221; simp at this⊢ <;>omega) (by decide)) ?_
 rintro _ w226 ⟨A222,c223,rfl,hl224,hc225,hC,-,-⟩
 refine lp (.slice A222 ((p++([z195]:List Int)).length) c223) (pu_assign rfl)<|ln (hK180 _ _ ?_)
 refine rg ?_
 obtain ⟨z227,h228,hb⟩:=bd hb
 refine lp (iv z227) (pu_addc (a:=l) (b:=1) e78 rfl h228)<|lp (iv z227) (pu_move rfl)<|ln ?_
 obtain rfl:=os hb
 exact hK172 m173' _ _ (Nat.lt_succ_self _) ⟨(p++([z195]:List Int)),z227,(y.set z195.toNat true),A222,(p++([z195]:List Int)).length,c223,e0,e2,e3,e4,e5,e9,e10,rfl,e12,e49,e50,e51,e56,e66,rfl,(chk_rng h228),hC.sE [1,2,3],lN hl4⟩
 replace hb:=tf hq205 hb
 refine Wc.skip (hK180 _ _ ?_)
 refine rg ?_
 obtain ⟨z229,h230,hb⟩:=bd hb
 refine lp (iv z229) (pu_addc (a:=l) (b:=1) e78 rfl h230)<|lp (iv z229) (pu_move rfl)<|ln ?_
 obtain rfl:=os hb
 exact hK172 m173' _ _ (Nat.lt_succ_self _) ⟨p,z229,y,D,p.length,G,e0,e2,e3,e4,e5,e9,e10,e11,e12,e49,e50,e51,e56,e66,rfl,(chk_rng h230),hC.sE [0,1,2],lN hl4⟩
 replace hb:=tf hq179 hb
 refine Wc.exit rfl ?_
 obtain rfl:=os hb
 obtain rfl:=(lX hl4).symm
 exact hK171 _ _ ⟨p,l,y,D,p.length,G,e0,e2,e3,e4,e5,e9,e10,e11,e12,e49,e50,e51,e56,e66,e78,U,hC.sE [0,1,2],hbK4⟩
 clear hb hC hl4
 rintro E232 w231 ⟨p,l,y,D,M,G,e0,e2,e3,e4,e5,e9,e10,e11,e12,e49,e50,e51,e56,e66,e78,U,hC,hb⟩
 obtain ⟨rfl,Z,a0⟩:=(hC.ow (i:=2) rfl).sl_len
 obtain rfl:=os hb
 exact hK144 m145' _ _ (Nat.lt_succ_self _) ⟨p,y,D,p.length,G,e0,e2,e3,e4,e5,e9,e10,e11,e49,e50,e51,e56,hC.sE [0,1,2],lN hl3⟩
 replace hb:=tf hq151 hb
 refine Wc.exit rfl ?_
 obtain rfl:=os hb
 obtain rfl:=(lX hl3).symm
 exact hK143 _ _ ⟨j,B,C,j.length,o,e0,e2,e3,e4,e5,e9,e10,e11,e49,e50,e51,e56,hC.sE [0,1,2],hbK3⟩
 clear hb hC hl3
 rintro E234 w233 ⟨j,B,C,L,o,e0,e2,e3,e4,e5,e9,e10,e11,e49,e50,e51,e56,hC,hb⟩
 obtain ⟨rfl,X,Y⟩:=(hC.ow (i:=2) rfl).sl_len
 refine hK110 _ _<|rg ?_
 obtain ⟨z235,h236,hb⟩:=bd hb
 refine lp (iv z235) (pu_addc (a:=d) (b:=1) e50 rfl h236)<|lp (iv z235) (pu_move rfl)<|ln ?_
 obtain rfl:=os hb
 exact hK102 m103' _ _ (Nat.lt_succ_self _) ⟨z124,z235,B,e0,e2,e3,e4,e5,e9,e49,rfl,(chk_rng h125),(chk_rng h236),hC.sE [0,1],lN hl2⟩
 replace hb:=tf hq109 hb
 refine Wc.exit rfl ?_
 obtain rfl:=os hb
 obtain rfl:=(lX hl2).symm
 exact hK101 _ _ ⟨K,d,J,e2,e3,e4,e5,R,P,hC.sE [],hbK2⟩
 clear hb hC hl2
 rintro E238 w237 ⟨K,d,J,e2,e3,e4,e5,R,P,hC,hb⟩
 subst hf100
 refine hK98 _ _<|Wc.seq fun _ hK239=>rg<|lp _ (pu_move e5) ?_
 obtain ⟨z240,h241,hb⟩:=bd hb
 refine lp (iv z240) (pu_mulc (a:=2) (b:=K) rfl rfl h241)<|lp _ (pu_move e3) ?_
 obtain ⟨z242,h243,hb⟩:=bd hb
 refine lp (iv z242) (pu_addc (a:=z240) (b:=z6) rfl rfl h243)<|lp _ (pu_move e4) ?_
 obtain ⟨z244,h245,hb⟩:=bd hb
 refine lp (iv z244) (pu_subc (a:=z242) (b:=u) rfl rfl h245) ?_
 obtain ⟨u246,h247,hb⟩:=bd hb
 obtain ⟨z248,h249,hb⟩:=bd hb
 refine lp (iv z248) (pu_quoc (a:=z244) (b:=2) rfl rfl h247 h249)<|lp (iv z248) (pu_assign rfl)<|ln (hK239 _ _ ?_)
 obtain rfl:=os hb
 refine Wc.ret (hKR _ _ ?_)
 refine ⟨_,res1 results85 (tV (iv z248) rfl),_,rfl,rfl,(chk_rng h249),hC.sE []⟩
end Go.Proofs.Yteajmbanlohncaa
