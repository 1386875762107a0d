import Derived.Test.YteajmbanlohncaaS
import Derived.Test.YteajmbanlohncaaG0
set_option linter.unusedVariables false
set_option linter.unusedSimpArgs false
namespace Go.Proofs.Yteajmbanlohncaa
open Ev Try
set_option maxRecDepth 100000
set_option maxHeartbeats 4000000
theorem polygon_Subdivide_ok (n:Nat) {w:World} {O0:List Nat} (hO: ∀k∈O0,k<w.heap.size) {K:Option Addr} {Q C:Nat} {d:List (List (Int×(Int×Int)))} (R:Rep O0 w (.sl (.sl (.pr si (.pr si si)))) [.slice K Q C] d) {o:Int} (S:I64 o) {p:Int} (T:I64 p) {r:(List (List (Int×(Int×Int))))×Int} (hb:F.polygon_Subdivide n d o p=some r):
    Calls prog 33 #[.slice K Q C,iv o,iv p] w fun e w'=> ∃v,e=.returned v∧∃(A0:Option Addr) (m0 c0:Nat),v=.tuple #[.slice A0 m0 c0,iv r.2]∧I64 r.2∧Cx (fun _=>False) O0 w w' [.ro (.sl (.sl (.pr si (.pr si si)))) [.slice A0 m0 c0] r.1]:=by
 unfold F.polygon_Subdivide at hb
 have hC:=Cx.start hO
 replace hC:=hC.arg rfl R
 clear hO
 obtain ⟨rfl,U,V⟩:=R.sl_len
 replace hC:=hC.noT
 refine calls_of_Wc func33 rfl (by rw [ntmps33]; exact nb rfl) fun KR hKR=>?_
 refine Wc.seq fun _ hK2=>rg ?_
 replace hC:Cx _ O0 w _ ([.ro (.sl (.sl (.pr si (.pr si si)))) [.slice K d.length C] d]++([]:List Fact)):=hC
 refine lp (.slice none 0 0) (pu_assign rfl)<|lp (iv 0) (pu_assign rfl)<|ln (hK2 _ _ ?_)
 refine Wc.seq fun _ hK3=>?_
 refine Wc.seq fun _ hK4=>rg<|lp (.slice K d.length C) (pu_move rfl) ?_
 obtain ⟨y5,h6,hb⟩:=bd hb
 refine lex.cl (⟨_,_,op_call (vs:=[.slice K d.length C]) call51 rfl rfl rfl,polygon_valid_ok n hC.lt (hC.rd (i:=0) rfl) h6⟩) ?_
 rintro _ w7 ⟨rfl,hK⟩
 replace hC:=hC.merge hK
 clear hK
 replace hC:Cx _ O0 w _ ([_]++([]:List Fact)):=hC
 refine lp (.bool (!y5)) (pu_not (q:=y5) rfl)<|lp (.bool (!y5)) (pu_move rfl) ?_
 rcases bS (!y5) with hq8 | hq8
 replace hb:=tt hq8 hb
 refine gs rfl rfl (!y5) rfl hq8<|gs rfl rfl (!y5) rfl hq8<|gs rfl rfl (!y5) rfl hq8<|gs rfl rfl (!y5) rfl hq8<|lp (.bool true) (pu_pickT (q:=(!y5)) rfl hq8 rfl)<|ln (hK4 _ _ ?_)
 refine Wc.cond_true (rfl) ?_
 refine Wc.seq fun _ hK9=>rg<|lp (.slice none 0 0) (pu_assign rfl)<|lp (iv 1) (pu_assign rfl)<|ln (hK9 _ _ ?_)
 replace hC:=hC.ro (show Rep _ _ (.sl (.sl (.pr si (.pr si si)))) [.slice none 0 0] [] from ⟨none,0,rfl,Nat.le_refl _,by omega,fun h=>absurd h (by simp)⟩)
 replace hC:Cx _ O0 w _ ([.ro (.sl (.sl (.pr si (.pr si si)))) [.slice none 0 0] ([]:List (List (Int×(Int×Int)))),_]++([]:List Fact)):=hC
 obtain rfl:=os hb
 refine Wc.ret (hKR _ _ ?_)
 refine ⟨_,res2 results33 (tV (.slice none 0 0) rfl) (tV (iv 1) rfl),_,rfl,none,0,0,rfl,(show I64 1 from by unfold I64; omega),hC.sE [0]⟩
 replace hb:=tf hq8 hb
 refine gp rfl rfl (!y5) rfl hq8 (.slice K d.length C) (pu_move rfl) ?_
 obtain ⟨y11,h12,hb⟩:=bd hb
 refine lex.gcl (want_t rfl rfl (show _=Value.bool (!y5) from rfl) hq8) (⟨_,_,op_call (vs:=[.slice K d.length C]) call52 rfl rfl rfl,polygon_edges_ok n hC.lt (hC.rd (i:=0) rfl) h12⟩) ?_
 rintro _ w17 ⟨A13,m14,c15,rfl,hK⟩
 replace hC:=hC.merge hK
 clear hK
 obtain ⟨rfl,hl18,hc19⟩:=(hC.ow (i:=0) rfl).sl_len
 replace hC:Cx _ O0 w _ ([.own 105 (.pr (.pr si (.pr si si)) (.pr (.pr si (.pr si si)) (.pr si si))) (.slice A13 y11.length c15) y11,_]++([]:List Fact)):=hC
 refine gp rfl rfl (!y5) rfl hq8 (iv (y11.length:Int)) (pu_len (A:=A13) (n:=y11.length) (m:=c15) underlying68 rfl)<|gp rfl rfl (!y5) rfl hq8 (.bool (decide ((y11.length:Int)=100))) (pu_eql (k:=.i64) (a:=(y11.length:Int)) (b:=100) rfl rfl)<|lp (.bool (decide ((y11.length:Int)=100))) (pu_pickF (q:=(!y5)) rfl hq8 rfl)<|ln (hK4 _ _ ?_)
 refine Wc.fresh fun E20 hE=>?_
 have e0:E20 0=.slice K d.length C:=cg hE 0 rfl
 have e1:E20 1=iv o:=cg hE 1 rfl
 have e2:E20 2=iv p:=cg hE 2 rfl
 have e6:E20 6=.slice none 0 0:=cg hE 6 rfl
 have e7:E20 7=iv 0:=cg hE 7 rfl
 have e24:E20 24=.bool (decide ((y11.length:Int)=100)):=cg hE 24 rfl
 clear hE
 refine Wc.cond (t:=(decide ((y11.length:Int)=100))) (e24) (fun hq21=>?_) (fun hq21=>?_)
 replace hb:=tt hq21 hb
 refine Wc.seq fun _ hK22=>rg<|lp (.slice none 0 0) (pu_assign rfl)<|lp (iv 1) (pu_assign rfl)<|ln (hK22 _ _ ?_)
 replace hC:=hC.ro (show Rep _ _ (.sl (.sl (.pr si (.pr si si)))) [.slice none 0 0] [] from ⟨none,0,rfl,Nat.le_refl _,by omega,fun h=>absurd h (by simp)⟩)
 replace hC:Cx _ O0 w _ ([.ro (.sl (.sl (.pr si (.pr si si)))) [.slice none 0 0] ([]:List (List (Int×(Int×Int)))),_,_]++([]:List Fact)):=hC
 obtain rfl:=os hb
 refine Wc.ret (hKR _ _ ?_)
 refine ⟨_,res2 results33 (tV (.slice none 0 0) rfl) (tV (iv 1) rfl),_,rfl,none,0,0,rfl,(show I64 1 from by unfold I64; omega),hC.sE [0]⟩
 replace hb:=tf hq21 hb
 refine Wc.skip (hK3 _ _ ?_)
 refine Wc.seq fun _ hK24=>?_
 refine Wc.seq fun _ hK25=>rg<|lp _ (pu_move e1)<|lp (.bool (decide (o<0))) (pu_lss (k:=.i64) (a:=o) (b:=0) rfl rfl)<|lp (.bool (decide (o<0))) (pu_move rfl) ?_
 rcases bS (decide (o<0)) with hq26 | hq26
 replace hb:=tt hq26 hb
 refine gs rfl rfl (decide (o<0)) rfl hq26<|gs rfl rfl (decide (o<0)) rfl hq26<|gs rfl rfl (decide (o<0)) rfl hq26<|gs rfl rfl (decide (o<0)) rfl hq26<|lp (.bool true) (pu_pickT (q:=(decide (o<0))) rfl hq26 rfl)<|lp (.bool true) (pu_move rfl)<|gs rfl rfl true rfl rfl<|gs rfl rfl true rfl rfl<|lp (.bool true) (pu_pickT (q:=true) rfl rfl rfl)<|lp (.bool true) (pu_move rfl)<|gs rfl rfl true rfl rfl<|gs rfl rfl true rfl rfl<|gs rfl rfl true rfl rfl<|gs rfl rfl true rfl rfl<|gs rfl rfl true rfl rfl<|gs rfl rfl true rfl rfl<|gs rfl rfl true rfl rfl<|lp (.bool true) (pu_pickT (q:=true) rfl rfl rfl)<|ln (hK25 _ _ ?_)
 refine Wc.cond_true (rfl) ?_
 refine Wc.seq fun _ hK27=>rg<|lp (.slice none 0 0) (pu_assign rfl)<|lp (iv 2) (pu_assign rfl)<|ln (hK27 _ _ ?_)
 replace hC:=hC.ro (show Rep _ _ (.sl (.sl (.pr si (.pr si si)))) [.slice none 0 0] [] from ⟨none,0,rfl,Nat.le_refl _,by omega,fun h=>absurd h (by simp)⟩)
 replace hC:Cx _ O0 w _ ([_,_,_]++([]:List Fact)):=hC
 obtain rfl:=os hb
 refine Wc.ret (hKR _ _ ?_)
 refine ⟨_,res2 results33 (tV (.slice none 0 0) rfl) (tV (iv 2) rfl),_,rfl,none,0,0,rfl,(show I64 2 from by unfold I64; omega),hC.sE [0]⟩
 replace hb:=tf hq26 hb
 refine gp rfl rfl (decide (o<0)) rfl hq26 (iv o) (pu_move e1)<|gp rfl rfl (decide (o<0)) rfl hq26 (.slice K d.length C) (pu_move e0)<|gp rfl rfl (decide (o<0)) rfl hq26 (iv (d.length:Int)) (pu_len (A:=K) (n:=d.length) (m:=C) underlying28 rfl)<|gp rfl rfl (decide (o<0)) rfl hq26 (.bool (decide ((d.length:Int)≤o))) (pu_geq (k:=.i64) (a:=o) (b:=(d.length:Int)) rfl rfl)<|lp (.bool (decide ((d.length:Int)≤o))) (pu_pickF (q:=(decide (o<0))) rfl hq26 rfl)<|lp (.bool (decide ((d.length:Int)≤o))) (pu_move rfl) ?_
 rcases bS (decide ((d.length:Int)≤o)) with hq29 | hq29
 replace hb:=tt hq29 hb
 refine gs rfl rfl (decide ((d.length:Int)≤o)) rfl hq29<|gs rfl rfl (decide ((d.length:Int)≤o)) rfl hq29<|lp (.bool true) (pu_pickT (q:=(decide ((d.length:Int)≤o))) rfl hq29 rfl)<|lp (.bool true) (pu_move rfl)<|gs rfl rfl true rfl rfl<|gs rfl rfl true rfl rfl<|gs rfl rfl true rfl rfl<|gs rfl rfl true rfl rfl<|gs rfl rfl true rfl rfl<|gs rfl rfl true rfl rfl<|gs rfl rfl true rfl rfl<|lp (.bool true) (pu_pickT (q:=true) rfl rfl rfl)<|ln (hK25 _ _ ?_)
 refine Wc.fresh fun E30 hE=>?_
 have e0:=cg hE 0 e0
 have e1:=cg hE 1 e1
 have e2:=cg hE 2 e2
 have e6:=cg hE 6 e6
 have e7:=cg hE 7 e7
 have e45:E30 45=.bool true:=cg hE 45 rfl
 clear hE
 refine Wc.cond_true (e45) ?_
 refine Wc.seq fun _ hK31=>rg<|lp (.slice none 0 0) (pu_assign rfl)<|lp (iv 2) (pu_assign rfl)<|ln (hK31 _ _ ?_)
 replace hC:=hC.ro (show Rep _ _ (.sl (.sl (.pr si (.pr si si)))) [.slice none 0 0] [] from ⟨none,0,rfl,Nat.le_refl _,by omega,fun h=>absurd h (by simp)⟩)
 replace hC:Cx _ O0 w _ ([_,_,_]++([]:List Fact)):=hC
 obtain rfl:=os hb
 refine Wc.ret (hKR _ _ ?_)
 refine ⟨_,res2 results33 (tV (.slice none 0 0) rfl) (tV (iv 2) rfl),_,rfl,none,0,0,rfl,(show I64 2 from by unfold I64; omega),hC.sE [0]⟩
 replace hb:=tf hq29 hb
 refine gp rfl rfl (decide ((d.length:Int)≤o)) rfl hq29 (iv p) (pu_move e2)<|gp rfl rfl (decide ((d.length:Int)≤o)) rfl hq29 (.bool (decide (p<0))) (pu_lss (k:=.i64) (a:=p) (b:=0) rfl rfl)<|lp (.bool (decide (p<0))) (pu_pickF (q:=(decide ((d.length:Int)≤o))) rfl hq29 rfl)<|lp (.bool (decide (p<0))) (pu_move rfl) ?_
 rcases bS (decide (p<0)) with hq33 | hq33
 replace hb:=tt hq33 hb
 refine gs rfl rfl (decide (p<0)) rfl hq33<|gs rfl rfl (decide (p<0)) rfl hq33<|gs rfl rfl (decide (p<0)) rfl hq33<|gs rfl rfl (decide (p<0)) rfl hq33<|gs rfl rfl (decide (p<0)) rfl hq33<|gs rfl rfl (decide (p<0)) rfl hq33<|gs rfl rfl (decide (p<0)) rfl hq33<|lp (.bool true) (pu_pickT (q:=(decide (p<0))) rfl hq33 rfl)<|ln (hK25 _ _ ?_)
 refine Wc.fresh fun E34 hE=>?_
 have e0:=cg hE 0 e0
 have e1:=cg hE 1 e1
 have e2:=cg hE 2 e2
 have e6:=cg hE 6 e6
 have e7:=cg hE 7 e7
 have e45:E34 45=.bool true:=cg hE 45 rfl
 clear hE
 refine Wc.cond_true (e45) ?_
 refine Wc.seq fun _ hK35=>rg<|lp (.slice none 0 0) (pu_assign rfl)<|lp (iv 2) (pu_assign rfl)<|ln (hK35 _ _ ?_)
 replace hC:=hC.ro (show Rep _ _ (.sl (.sl (.pr si (.pr si si)))) [.slice none 0 0] [] from ⟨none,0,rfl,Nat.le_refl _,by omega,fun h=>absurd h (by simp)⟩)
 replace hC:Cx _ O0 w _ ([_,_,_]++([]:List Fact)):=hC
 obtain rfl:=os hb
 refine Wc.ret (hKR _ _ ?_)
 refine ⟨_,res2 results33 (tV (.slice none 0 0) rfl) (tV (iv 2) rfl),_,rfl,none,0,0,rfl,(show I64 2 from by unfold I64; omega),hC.sE [0]⟩
 replace hb:=tf hq33 hb
 refine gp rfl rfl (decide (p<0)) rfl hq33 (iv p) (pu_move e2)<|gp rfl rfl (decide (p<0)) rfl hq33 (.slice K d.length C) (pu_move e0)<|gp rfl rfl (decide (p<0)) rfl hq33 (iv o) (pu_move e1) ?_
 obtain ⟨x37,h38,hb⟩:=bd hb
 obtain ⟨ad39,cs40,hA,hc41,hr42⟩:=hC.elr (i:=1) rfl (get_some h38).2
 subst hA
 refine gp rfl rfl (decide (p<0)) rfl hq33 (.pointer (some (ad39.add (o.toNat*1)))) (pu_index (a:=o) underlying28 sizeOf43 rfl rfl (get_some h38).1) ?_
 replace hC:Cx _ O0 w _ ([_,.ro (.sl (.sl (.pr si (.pr si si)))) [.slice (some ad39) d.length C] d]++([]:List Fact)):=hC
 have hR:=hr42
 obtain ⟨A43,c44,rfl,hl45,hc46,_⟩:=hr42
 replace hC:=hC.ro hR
 clear hR
 refine gv rfl rfl (decide (p<0)) rfl hq33 (.slice A43 x37.length c44) (ld_one isAgg43 rfl (hc41 0 _ rfl)) ?_
 replace hC:Cx _ O0 w _ ([.ro (.sl (.pr si (.pr si si))) [.slice A43 x37.length c44] x37,_,_]++([]:List Fact)):=hC
 refine gp rfl rfl (decide (p<0)) rfl hq33 (iv (x37.length:Int)) (pu_len (A:=A43) (n:=x37.length) (m:=c44) underlying43 rfl)<|gp rfl rfl (decide (p<0)) rfl hq33 (.bool (decide ((x37.length:Int)≤p))) (pu_geq (k:=.i64) (a:=p) (b:=(x37.length:Int)) rfl rfl)<|lp (.bool (decide ((x37.length:Int)≤p))) (pu_pickF (q:=(decide (p<0))) rfl hq33 rfl)<|ln (hK25 _ _ ?_)
 refine Wc.fresh fun E48 hE=>?_
 have e0:=cg hE 0 e0
 have e1:=cg hE 1 e1
 have e2:=cg hE 2 e2
 have e6:=cg hE 6 e6
 have e7:=cg hE 7 e7
 have e45:E48 45=.bool (decide ((x37.length:Int)≤p)):=cg hE 45 rfl
 clear hE
 refine Wc.cond (t:=(decide ((x37.length:Int)≤p))) (e45) (fun hq49=>?_) (fun hq49=>?_)
 replace hb:=tt hq49 hb
 refine Wc.seq fun _ hK50=>rg<|lp (.slice none 0 0) (pu_assign rfl)<|lp (iv 2) (pu_assign rfl)<|ln (hK50 _ _ ?_)
 replace hC:=hC.ro (show Rep _ _ (.sl (.sl (.pr si (.pr si si)))) [.slice none 0 0] [] from ⟨none,0,rfl,Nat.le_refl _,by omega,fun h=>absurd h (by simp)⟩)
 replace hC:Cx _ O0 w _ ([.ro (.sl (.sl (.pr si (.pr si si)))) [.slice none 0 0] ([]:List (List (Int×(Int×Int)))),_,_,_]++([]:List Fact)):=hC
 obtain rfl:=os hb
 refine Wc.ret (hKR _ _ ?_)
 refine ⟨_,res2 results33 (tV (.slice none 0 0) rfl) (tV (iv 2) rfl),_,rfl,none,0,0,rfl,(show I64 2 from by unfold I64; omega),hC.sE [0]⟩
 replace hb:=tf hq49 hb
 refine Wc.skip (hK24 _ _ ?_)
 refine Wc.seq fun _ hK52=>?_
 refine Wc.regionAlt [49,52,56,62,66] (frm [49,52,56,62,66] ([]:List Fact) ([]:List Fact)) 21 (fun _=>rfl) mixed (by decide+kernel) (by decide+kernel) (pl:=(chainP [0,1,2,3,4,5,6,7,8,9,10,11,12,13,14,15,16,17,18,19,20] (.alt (chainP [21] (chainP [22,23,24] .done)) (chainP [22] (chainP [21,23,24] .done))))) rfl fun w54 hw53=>?_
 replace hC:=hC.step (Fr.of_drew hw53)
 have hM:=Fr.refl (fun k=>k∈blocks ([]:List Fact)) w54
 clear hw53
 have hS:=hC
 have hD:Fr (fun k=>k∈blocks (([]:List Fact)++([]:List Fact))) w54 w54:=hM.wide
 refine mixPE_chain ?_
 replace hC:Cx _ O0 w _ ([_,_,_]++([]:List Fact)):=hC
 refine mp (.slice (some ad39) d.length C) (pu_move e0)<|mp (iv o) (pu_move e1) ?_
 obtain ⟨x55,h56,hb⟩:=bd hb
 obtain ⟨ad57,cs58,hA,ho61,hc59,hr60⟩:=hS.elr2 (i:=2) rfl (get_some h56).2 []
 obtain rfl:=Option.some.inj hA
 refine mp (.pointer (some (ad39.add (o.toNat*1)))) (pu_index (a:=o) underlying28 sizeOf43 rfl rfl (get_some h56).1) ?_
 have hR:=hr60
 obtain ⟨A62,c63,rfl,hl64,hc65,_⟩:=hr60
 replace hS:=hS.ro hR
 replace hC:=hC.ro hR
 clear hR
 refine mixE.steady hD (v:=.slice A62 x55.length c63) (fun _ hF=>ld_one isAgg43 rfl (hF.cell (hc59 0 _ rfl) (off1 ho61))) ?_
 replace hC:Cx _ O0 w _ ([.ro (.sl (.pr si (.pr si si))) [.slice A62 x55.length c63] x55,_,_,_]++([]:List Fact)):=hC
 refine mp (iv p) (pu_move e2) ?_
 obtain ⟨x67,h68,hb⟩:=bd hb
 obtain ⟨ad69,cs70,hA,ho73,hc71,hr72⟩:=hS.elr2 (i:=0) rfl (get_some h68).2 []
 subst hA
 refine mp (.pointer (some (ad69.add (p.toNat*3)))) (pu_index (a:=p) underlying43 sizeOf23 rfl rfl (get_some h68).1) ?_
 replace hC:Cx _ O0 w _ ([.ro (.sl (.pr si (.pr si si))) [.slice (some ad69) x55.length c63] x55,_,_,_]++([]:List Fact)):=hC
 obtain ⟨k74,k75,rfl,hr76,hr77⟩:=hr72
 obtain ⟨rfl,hr76⟩:=hr76
 obtain ⟨k78,k79,rfl,hr80,hr81⟩:=hr77
 obtain ⟨rfl,hr80⟩:=hr80
 obtain ⟨rfl,hr81⟩:=hr81
 refine mixE.steady hD (v:=.agg #[iv x67.1,iv x67.2.1,iv x67.2.2]) (fun _ hF=>ld_agg isAgg23 sizeOf23 rfl rfl (fun j u hu=>hF.cell (hc71 j u hu) (off2 ho73)))<|mp (.slice (some ad39) d.length C) (pu_move e0)<|mp (iv o) (pu_move e1) ?_
 obtain ⟨x82,h83,hb⟩:=bd hb
 obtain ⟨ad84,cs85,hA,ho88,hc86,hr87⟩:=hS.elr2 (i:=3) rfl (get_some h83).2 []
 obtain rfl:=Option.some.inj hA
 refine mp (.pointer (some (ad39.add (o.toNat*1)))) (pu_index (a:=o) underlying28 sizeOf43 rfl rfl (get_some h83).1) ?_
 have hR:=hr87
 obtain ⟨A89,c90,rfl,hl91,hc92,_⟩:=hr87
 replace hS:=hS.ro hR
 replace hC:=hC.ro hR
 clear hR
 refine mixE.steady hD (v:=.slice A89 x82.length c90) (fun _ hF=>ld_one isAgg43 rfl (hF.cell (hc86 0 _ rfl) (off1 ho88))) ?_
 replace hC:Cx _ O0 w _ ([.ro (.sl (.pr si (.pr si si))) [.slice A89 x82.length c90] x82,_,_,_,_]++([]:List Fact)):=hC
 refine mp (iv p) (pu_move e2) ?_
 obtain ⟨z94,h95,hb⟩:=bd hb
 refine mp (iv z94) (pu_addc (a:=p) (b:=1) rfl rfl h95)<|mp (.slice (some ad39) d.length C) (pu_move e0)<|mp (iv o) (pu_move e1) ?_
 obtain ⟨x96,h97,hb⟩:=bd hb
 obtain ⟨ad98,cs99,hA,ho102,hc100,hr101⟩:=hS.elr2 (i:=4) rfl (get_some h97).2 []
 obtain rfl:=Option.some.inj hA
 refine mp (.pointer (some (ad39.add (o.toNat*1)))) (pu_index (a:=o) underlying28 sizeOf43 rfl rfl (get_some h97).1) ?_
 have hR:=hr101
 obtain ⟨A103,c104,rfl,hl105,hc106,_⟩:=hr101
 replace hS:=hS.ro hR
 replace hC:=hC.ro hR
 clear hR
 refine mixE.steady hD (v:=.slice A103 x96.length c104) (fun _ hF=>ld_one isAgg43 rfl (hF.cell (hc100 0 _ rfl) (off1 ho102))) ?_
 replace hC:Cx _ O0 w _ ([.ro (.sl (.pr si (.pr si si))) [.slice A103 x96.length c104] x96,_,_,_,_,_]++([]:List Fact)):=hC
 refine mp (iv (x96.length:Int)) (pu_len (A:=A103) (n:=x96.length) (m:=c104) underlying43 rfl) ?_
 obtain ⟨u108,h109,hb⟩:=bd hb
 refine mp (iv (Int.tmod z94 (x96.length:Int))) (pu_remc (a:=z94) (b:=(x96.length:Int)) rfl rfl h109) ?_
 obtain ⟨x110,h111,hb⟩:=bd hb
 obtain ⟨ad112,cs113,hA,ho116,hc114,hr115⟩:=hS.elr2 (i:=1) rfl (get_some h111).2 []
 subst hA
 refine mp (.pointer (some (ad112.add ((Int.tmod z94 (x96.length:Int)).toNat*3)))) (pu_index (a:=(Int.tmod z94 (x96.length:Int))) underlying43 sizeOf23 rfl rfl (get_some h111).1) ?_
 replace hC:Cx _ O0 w _ ([_,.ro (.sl (.pr si (.pr si si))) [.slice (some ad112) x82.length c90] x82,_,_,_,_]++([]:List Fact)):=hC
 obtain ⟨k117,k118,rfl,hr119,hr120⟩:=hr115
 obtain ⟨rfl,hr119⟩:=hr119
 obtain ⟨k121,k122,rfl,hr123,hr124⟩:=hr120
 obtain ⟨rfl,hr123⟩:=hr123
 obtain ⟨rfl,hr124⟩:=hr124
 refine mixE.steady hD (v:=.agg #[iv x110.1,iv x110.2.1,iv x110.2.2]) (fun _ hF=>ld_agg isAgg23 sizeOf23 rfl rfl (fun j u hu=>hF.cell (hc114 j u hu) (off2 ho116)))<|mixE.nil ?_
 refine mixPE_alt ?_ ?_
 refine mixPE_chain ?_
 refine mixE.op hM (hC.alloc (cs:=[iv 0,iv 0,iv 0]) zeroValue23 rfl) ?_
 rintro _ w126 ⟨g125,rfl,hC,hF,hG⟩
 have hUf127:g125<w54.heap.size→g125∈blocks (([]:List Fact)++([]:List Fact)):=fun h=>absurd (Nat.lt_of_lt_of_le h (Nat.le_trans hM.size hG)) (Nat.lt_irrefl _)
 clear hG
 replace hM:=hM.none hF
 replace hD:=hM.wide (H:=([]:List Fact))
 refine ⟨hM,?_⟩
 refine mixE.nil ?_
 refine mixPE_chain ?_
 replace hC:Cx _ O0 w _ ([.box g125 23 [iv 0,iv 0,iv 0],_,_,_,_,_,_]++([]:List Fact)):=hC
 refine mixE.op hM (hC.alloc (cs:=[iv 0,iv 0,iv 0]) zeroValue23 rfl) ?_
 rintro _ w129 ⟨g128,rfl,hC,hF,hG⟩
 have hUf130:g128<w54.heap.size→g128∈blocks (([]:List Fact)++([]:List Fact)):=fun h=>absurd (Nat.lt_of_lt_of_le h (Nat.le_trans hM.size hG)) (Nat.lt_irrefl _)
 clear hG
 replace hM:=hM.none hF
 replace hD:=hM.wide (H:=([]:List Fact))
 refine ⟨hM,?_⟩
 replace hC:Cx _ O0 w _ ([.box g128 23 [iv 0,iv 0,iv 0],_,_,_,_,_,_,_]++([]:List Fact)):=hC
 refine mixE.sk hD (hC.seta (i:=1) (ds:=[iv x67.1,iv x67.2.1,iv x67.2.2]) rfl type23 rfl rfl rfl rfl rfl) ?_
 rintro w131 ⟨hC,hF⟩
 replace hD:=hD.besideG hUf127 hF
 clear hF
 refine ⟨hD,?_⟩
 replace hC:Cx _ O0 w _ ([_,.box g125 23 [iv x67.1,iv x67.2.1,iv x67.2.2],_,_,_,_,_,_]++([]:List Fact)):=hC
 refine mixE.sk hD (hC.seta (i:=0) (ds:=[iv x110.1,iv x110.2.1,iv x110.2.2]) rfl type23 rfl rfl rfl rfl rfl) ?_
 rintro w132 ⟨hC,hF⟩
 replace hD:=hD.besideG hUf130 hF
 clear hF
 refine ⟨hD,?_⟩
 refine mixE.nil ?_
 clear hS hM
 clear hD
 refine hK52 _ _<|Wc.fresh fun E133 hE=>?_
 have e0:=cg hE 0 e0
 have e1:=cg hE 1 e1
 have e2:=cg hE 2 e2
 have e6:=cg hE 6 e6
 have e7:=cg hE 7 e7
 have e8:E133 8=pg g125:=cg hE 8 rfl
 have e9:E133 9=pg g128:=cg hE 9 rfl
 clear hE
 refine Wc.seq fun _ hK134=>rg ?_
 replace hC:Cx _ O0 w _ ([.box g128 23 [iv x110.1,iv x110.2.1,iv x110.2.2],_,_,_,_,_,_,_]++([]:List Fact)):=hC
 refine lp (.pointer (some ((⟨g125,0,none⟩:Addr).add 0))) (pu_field (sz:=1) underlying23 rfl sizeOf3 (by decide) rfl e8)<|lv (iv x67.1) (ld_fld (hC.bx (i:=1) rfl) isAgg3 rfl rfl)<|lp (.pointer (some ((⟨g128,0,none⟩:Addr).add 0))) (pu_field (sz:=1) underlying23 rfl sizeOf3 (by decide) rfl e9)<|lv (iv x110.1) (ld_fld (hC.bx (i:=0) rfl) isAgg3 rfl rfl) ?_
 obtain ⟨z135,h136,hb⟩:=bd hb
 refine lp (iv z135) (pu_addc (a:=x67.1) (b:=x110.1) rfl rfl h136)<|lp (.pointer (some ((⟨g125,0,none⟩:Addr).add 1))) (pu_field (sz:=1) underlying23 rfl sizeOf3 (by decide) rfl e8)<|lv (iv x67.2.1) (ld_fld (hC.bx (i:=1) rfl) isAgg3 rfl rfl)<|lp (.pointer (some ((⟨g128,0,none⟩:Addr).add 1))) (pu_field (sz:=1) underlying23 rfl sizeOf3 (by decide) rfl e9)<|lv (iv x110.2.1) (ld_fld (hC.bx (i:=0) rfl) isAgg3 rfl rfl) ?_
 obtain ⟨z137,h138,hb⟩:=bd hb
 refine lp (iv z137) (pu_addc (a:=x67.2.1) (b:=x110.2.1) rfl rfl h138)<|lp (.pointer (some ((⟨g125,0,none⟩:Addr).add 2))) (pu_field (sz:=1) underlying23 rfl sizeOf3 (by decide) rfl e8)<|lv (iv x67.2.2) (ld_fld (hC.bx (i:=1) rfl) isAgg3 rfl rfl)<|lp (.pointer (some ((⟨g128,0,none⟩:Addr).add 2))) (pu_field (sz:=1) underlying23 rfl sizeOf3 (by decide) rfl e9)<|lv (iv x110.2.2) (ld_fld (hC.bx (i:=0) rfl) isAgg3 rfl rfl) ?_
 obtain ⟨z139,h140,hb⟩:=bd hb
 refine lp (iv z139) (pu_addc (a:=x67.2.2) (b:=x110.2.2) rfl rfl h140)<|lp (.agg #[iv z135,iv z137,iv z139]) (pu_builds (places:=[(0,1),(1,1),(2,1)]) (pv:=[(0,iv z135),(1,iv z137),(2,iv z139)]) type23 underlying23 rfl (mp_cons type3 (mp_cons type3 (mp_cons type3 mp_nil rfl rfl) rfl rfl) rfl rfl) rfl (by simp [Instr.fill,Value.cells]))<|lex.op (hC.alloc (cs:=[iv 0,iv 0,iv 0]) zeroValue23 rfl) ?_
 rintro _ w142 ⟨g141,rfl,hC,hF,-⟩
 replace hC:Cx _ O0 w _ ([.box g141 23 [iv 0,iv 0,iv 0],_,_,_,_,_,_,_,_]++([]:List Fact)):=hC
 refine lex.sk (hC.seta (i:=0) (ds:=[iv z135,iv z137,iv z139]) rfl type23 rfl rfl rfl rfl rfl) ?_
 rintro w144 ⟨hC,hF⟩
 refine ln (hK134 _ _ ?_)
 refine Wc.fresh fun E145 hE=>?_
 have e0:=cg hE 0 e0
 have e1:=cg hE 1 e1
 have e2:=cg hE 2 e2
 have e6:=cg hE 6 e6
 have e7:=cg hE 7 e7
 have e10:E145 10=pg g141:=cg hE 10 rfl
 clear hE
 refine Wc.seq fun _ hK146=>?_
 refine Wc.seq fun _ hK147=>rg ?_
 replace hC:Cx _ O0 w _ ([.box g141 23 [iv z135,iv z137,iv z139],_,_,_,_,_,_,_,_]++([]:List Fact)):=hC
 refine lp (.pointer (some ((⟨g141,0,none⟩:Addr).add 0))) (pu_field (sz:=1) underlying23 rfl sizeOf3 (by decide) rfl e10)<|lv (iv z135) (ld_fld (hC.bx (i:=0) rfl) isAgg3 rfl rfl) ?_
 obtain ⟨u148,h149,hb⟩:=bd hb
 refine lp (iv (Int.tmod z135 2)) (pu_remc (a:=z135) (b:=2) rfl rfl h149)<|lp (.bool (!(decide ((Int.tmod z135 2)=0)))) (pu_neq (k:=.i64) (a:=(Int.tmod z135 2)) (b:=0) rfl rfl)<|lp (.bool (!(decide ((Int.tmod z135 2)=0)))) (pu_move rfl) ?_
 rcases bS (!(decide ((Int.tmod z135 2)=0))) with hq150 | hq150
 replace hb:=tt hq150 hb
 refine gs rfl rfl (!(decide ((Int.tmod z135 2)=0))) rfl hq150<|gs rfl rfl (!(decide ((Int.tmod z135 2)=0))) rfl hq150<|gs rfl rfl (!(decide ((Int.tmod z135 2)=0))) rfl hq150<|gs rfl rfl (!(decide ((Int.tmod z135 2)=0))) rfl hq150<|lp (.bool true) (pu_pickT (q:=(!(decide ((Int.tmod z135 2)=0)))) rfl hq150 rfl)<|lp (.bool true) (pu_move rfl)<|gs rfl rfl true rfl rfl<|gs rfl rfl true rfl rfl<|gs rfl rfl true rfl rfl<|gs rfl rfl true rfl rfl<|lp (.bool true) (pu_pickT (q:=true) rfl rfl rfl)<|ln (hK147 _ _ ?_)
 refine Wc.cond_true (rfl) ?_
 refine Wc.seq fun _ hK151=>rg<|lp (.slice none 0 0) (pu_assign rfl)<|lp (iv 10) (pu_assign rfl)<|ln (hK151 _ _ ?_)
 replace hC:=hC.ro (show Rep _ _ (.sl (.sl (.pr si (.pr si si)))) [.slice none 0 0] [] from ⟨none,0,rfl,Nat.le_refl _,by omega,fun h=>absurd h (by simp)⟩)
 replace hC:Cx _ O0 w _ ([.ro (.sl (.sl (.pr si (.pr si si)))) [.slice none 0 0] ([]:List (List (Int×(Int×Int)))),_,_,_,_,_,_,_,_,_]++([]:List Fact)):=hC
 obtain rfl:=os hb
 refine Wc.ret (hKR _ _ ?_)
 refine ⟨_,res2 results33 (tV (.slice none 0 0) rfl) (tV (iv 10) rfl),_,rfl,none,0,0,rfl,(show I64 10 from by unfold I64; omega),hC.sE [0]⟩
 replace hb:=tf hq150 hb
 refine gp rfl rfl (!(decide ((Int.tmod z135 2)=0))) rfl hq150 (.pointer (some ((⟨g141,0,none⟩:Addr).add 1))) (pu_field (sz:=1) underlying23 rfl sizeOf3 (by decide) rfl e10)<|gv rfl rfl (!(decide ((Int.tmod z135 2)=0))) rfl hq150 (iv z137) (ld_fld (hC.bx (i:=0) rfl) isAgg3 rfl rfl) ?_
 obtain ⟨u153,h154,hb⟩:=bd hb
 refine gp rfl rfl (!(decide ((Int.tmod z135 2)=0))) rfl hq150 (iv (Int.tmod z137 2)) (pu_remc (a:=z137) (b:=2) rfl rfl h154)<|gp rfl rfl (!(decide ((Int.tmod z135 2)=0))) rfl hq150 (.bool (!(decide ((Int.tmod z137 2)=0)))) (pu_neq (k:=.i64) (a:=(Int.tmod z137 2)) (b:=0) rfl rfl)<|lp (.bool (!(decide ((Int.tmod z137 2)=0)))) (pu_pickF (q:=(!(decide ((Int.tmod z135 2)=0)))) rfl hq150 rfl)<|lp (.bool (!(decide ((Int.tmod z137 2)=0)))) (pu_move rfl) ?_
 rcases bS (!(decide ((Int.tmod z137 2)=0))) with hq155 | hq155
 replace hb:=tt hq155 hb
 refine gs rfl rfl (!(decide ((Int.tmod z137 2)=0))) rfl hq155<|gs rfl rfl (!(decide ((Int.tmod z137 2)=0))) rfl hq155<|gs rfl rfl (!(decide ((Int.tmod z137 2)=0))) rfl hq155<|gs rfl rfl (!(decide ((Int.tmod z137 2)=0))) rfl hq155<|lp (.bool true) (pu_pickT (q:=(!(decide ((Int.tmod z137 2)=0)))) rfl hq155 rfl)<|ln (hK147 _ _ ?_)
 refine Wc.fresh fun E156 hE=>?_
 have e0:=cg hE 0 e0
 have e1:=cg hE 1 e1
 have e2:=cg hE 2 e2
 have e6:=cg hE 6 e6
 have e7:=cg hE 7 e7
 have e10:=cg hE 10 e10
 have e98:E156 98=.bool true:=cg hE 98 rfl
 clear hE
 refine Wc.cond_true (e98) ?_
 refine Wc.seq fun _ hK157=>rg<|lp (.slice none 0 0) (pu_assign rfl)<|lp (iv 10) (pu_assign rfl)<|ln (hK157 _ _ ?_)
 replace hC:=hC.ro (show Rep _ _ (.sl (.sl (.pr si (.pr si si)))) [.slice none 0 0] [] from ⟨none,0,rfl,Nat.le_refl _,by omega,fun h=>absurd h (by simp)⟩)
 replace hC:Cx _ O0 w _ ([_,_,_,_,_,_,_,_,_,_]++([]:List Fact)):=hC
 obtain rfl:=os hb
 refine Wc.ret (hKR _ _ ?_)
 refine ⟨_,res2 results33 (tV (.slice none 0 0) rfl) (tV (iv 10) rfl),_,rfl,none,0,0,rfl,(show I64 10 from by unfold I64; omega),hC.sE [0]⟩
 replace hb:=tf hq155 hb
 refine gp rfl rfl (!(decide ((Int.tmod z137 2)=0))) rfl hq155 (.pointer (some ((⟨g141,0,none⟩:Addr).add 2))) (pu_field (sz:=1) underlying23 rfl sizeOf3 (by decide) rfl e10)<|gv rfl rfl (!(decide ((Int.tmod z137 2)=0))) rfl hq155 (iv z139) (ld_fld (hC.bx (i:=0) rfl) isAgg3 rfl rfl) ?_
 obtain ⟨u159,h160,hb⟩:=bd hb
 refine gp rfl rfl (!(decide ((Int.tmod z137 2)=0))) rfl hq155 (iv (Int.tmod z139 2)) (pu_remc (a:=z139) (b:=2) rfl rfl h160)<|gp rfl rfl (!(decide ((Int.tmod z137 2)=0))) rfl hq155 (.bool (!(decide ((Int.tmod z139 2)=0)))) (pu_neq (k:=.i64) (a:=(Int.tmod z139 2)) (b:=0) rfl rfl)<|lp (.bool (!(decide ((Int.tmod z139 2)=0)))) (pu_pickF (q:=(!(decide ((Int.tmod z137 2)=0)))) rfl hq155 rfl)<|ln (hK147 _ _ ?_)
 refine Wc.fresh fun E161 hE=>?_
 have e0:=cg hE 0 e0
 have e1:=cg hE 1 e1
 have e2:=cg hE 2 e2
 have e6:=cg hE 6 e6
 have e7:=cg hE 7 e7
 have e10:=cg hE 10 e10
 have e98:E161 98=.bool (!(decide ((Int.tmod z139 2)=0))):=cg hE 98 rfl
 clear hE
 refine Wc.cond (t:=(!(decide ((Int.tmod z139 2)=0)))) (e98) (fun hq162=>?_) (fun hq162=>?_)
 replace hb:=tt hq162 hb
 refine Wc.seq fun _ hK163=>rg<|lp (.slice none 0 0) (pu_assign rfl)<|lp (iv 10) (pu_assign rfl)<|ln (hK163 _ _ ?_)
 replace hC:=hC.ro (show Rep _ _ (.sl (.sl (.pr si (.pr si si)))) [.slice none 0 0] [] from ⟨none,0,rfl,Nat.le_refl _,by omega,fun h=>absurd h (by simp)⟩)
 replace hC:Cx _ O0 w _ ([_,_,_,_,_,_,_,_,_,_]++([]:List Fact)):=hC
 obtain rfl:=os hb
 refine Wc.ret (hKR _ _ ?_)
 refine ⟨_,res2 results33 (tV (.slice none 0 0) rfl) (tV (iv 10) rfl),_,rfl,none,0,0,rfl,(show I64 10 from by unfold I64; omega),hC.sE [0]⟩
 replace hb:=tf hq162 hb
 refine Wc.skip (hK146 _ _ ?_)
 refine Wc.seq fun _ hK165=>rg<|lp _ (pu_move e0)<|lp (iv (d.length:Int)) (pu_len (A:=(some ad39)) (n:=d.length) (m:=C) underlying28 rfl) ?_
 obtain ⟨u166,h167,hb⟩:=bd hb
 refine lex.op (hC.make (s:=.raw) (n:=(d.length:Int)) underlying28 type43 rfl rfl rfl rfl rfl (pos_some h167).1 (pos_some h167).2 (by decide)) ?_
 rintro _ w172 ⟨A168,c169,rfl,hl170,hc171,hC,-,-⟩
 replace hC:Cx _ O0 w _ ([.own 43 .raw (.slice A168 (((List.replicate (d.length:Int).toNat (Value.slice none 0 0))).length) c169) (List.replicate (d.length:Int).toNat (Value.slice none 0 0)),_,_,_,_,_,_,_,_,_]++([]:List Fact)):=hC
 replace hC:=hC.nilRows 23 (.pr si (.pr si si)) (d.length:Int).toNat
 replace hC:Cx _ O0 w _ ([_,_,_,_,_,_,_,_,_,_]++(rowsF 23 (.pr si (.pr si si)) (List.replicate (d.length:Int).toNat (Value.slice none 0 0)) (List.replicate (d.length:Int).toNat ([]:List (Int×(Int×Int))))++([]:List Fact))):=hC
 refine lp (.slice A168 (((List.replicate (d.length:Int).toNat (Value.slice none 0 0))).length) c169) (pu_assign rfl)<|ln (hK165 _ _ ?_)
 refine Wc.seq fun _ hK174=>?_
 refine Wc.seq fun _ hK175=>rg<|lp _ (pu_move e0)<|lp (iv (d.length:Int)) (pu_len (A:=(some ad39)) (n:=d.length) (m:=C) underlying28 rfl)<|lp (iv 0) (pu_move rfl)<|ln (hK175 _ _ ?_)
 obtain ⟨o176,hl0,f176,hf176,hb⟩:=bn hb
 refine Wc.cut (fun E wv=> ∃(c:Int) (y:List (List (Int×(Int×Int)))) (z:List Value),E 6=.slice none 0 0∧E 7=iv 0∧E 11=.slice A168 (((List.replicate (d.length:Int).toNat (Value.slice none 0 0))).length) c169∧I64 c∧z.length=y.length∧Cx (fun _=>False) O0 w wv ([.own 43 .raw (.slice A168 (((List.replicate (d.length:Int).toNat (Value.slice none 0 0))).length) c169) z]++(rowsF 23 (.pr si (.pr si si)) z y++([]:List Fact)))∧f176 (c,y)=some r) (fun _ hK177=>?_) ?_
 refine Wc.block ?_
 refine Wc.loop (fun m E wv=> ∃(c:Int) (y:List (List (Int×(Int×Int)))) (z:List Value),E 1=iv o∧E 2=iv p∧E 6=.slice none 0 0∧E 7=iv 0∧E 10=pg g141∧E 11=.slice A168 (((List.replicate (d.length:Int).toNat (Value.slice none 0 0))).length) c169∧E 102=.slice (some ad39) d.length C∧E 103=iv (d.length:Int)∧E 104=iv c∧I64 c∧z.length=y.length∧Cx (fun _=>False) O0 w wv ([.box g141 23 [iv z135,iv z137,iv z139],.own 43 .raw (.slice A168 (((List.replicate (d.length:Int).toNat (Value.slice none 0 0))).length) c169) z,.ro (.sl (.sl (.pr si (.pr si si)))) [.slice (some ad39) d.length C] d]++(rowsF 23 (.pr si (.pr si si)) z y++([]:List Fact)))∧loopN m (F.polygon_Subdivide_b0 n d o p z135 z137 z139) (c,y)=some o176) n ⟨0,(List.replicate (d.length:Int).toNat ([]:List (Int×(Int×Int)))),(List.replicate (d.length:Int).toNat (Value.slice none 0 0)),e1,e2,e6,e7,e10,rfl,rfl,rfl,rfl,(show I64 0 from by unfold I64; omega),(nilRows_len (d.length:Int).toNat (s:=(.pr si (.pr si si)))),hC.selT [1,0,9] (by decide),hl0⟩ ?_
 have hbK0:=hb
 clear hb hC hl0
 rintro m179 E181 w180 ⟨c,y,z,e1,e2,e6,e7,e10,e11,e102,e103,e104,L,N,hC,hl0⟩ K178 hK178
 obtain ⟨m179',o182,rfl,hb,hl0⟩:=loopN_some hl0
 unfold F.polygon_Subdivide_b0 at hb
 refine Wc.seq fun _ hK183=>rg ?_
 replace hC:Cx _ O0 w _ ([_,.own 43 .raw (.slice A168 (((List.replicate (d.length:Int).toNat (Value.slice none 0 0))).length) c169) z,_]++(rowsF 23 (.pr si (.pr si si)) z y++([]:List Fact))):=hC
 refine lp _ (pu_lss e104 e103)<|ln (hK183 _ _ ?_)
 refine Wc.seq fun _ hK184=>?_
 refine Wc.cond (t:=(decide (c<(d.length:Int)))) (rfl) (fun hq185=>?_) (fun hq185=>?_)
 replace hb:=tt hq185 hb
 refine Wc.skip (hK184 _ _ ?_)
 refine Wc.seq fun _ hK186=>?_
 refine Wc.block<|Wc.seq fun _ hK187=>rg<|lp _ (pu_move e104) ?_
 obtain ⟨x188,h189,hb⟩:=bd hb
 obtain ⟨ad190,cs191,hA,hc192,hr193⟩:=hC.elr (i:=2) rfl (get_some h189).2
 obtain rfl:=Option.some.inj hA
 refine lp (.pointer (some (ad39.add (c.toNat*1)))) (pu_index (a:=c) underlying28 sizeOf43 e102 e104 (get_some h189).1) ?_
 have hR:=hr193
 obtain ⟨A194,c195,rfl,hl196,hc197,_⟩:=hr193
 replace hC:=hC.ro hR
 clear hR
 refine lv (.slice A194 x188.length c195) (ld_one isAgg43 rfl (hc192 0 _ rfl)) ?_
 replace hC:Cx _ O0 w _ ([.ro (.sl (.pr si (.pr si si))) [.slice A194 x188.length c195] x188,_,_,_]++(rowsF 23 (.pr si (.pr si si)) z y++([]:List Fact))):=hC
 refine lp (iv c) (pu_assign rfl)<|lp (.slice A194 x188.length c195) (pu_assign rfl)<|ln (hK187 _ _ ?_)
 refine Wc.seq fun _ hK199=>rg<|lp (.slice A194 x188.length c195) (pu_move rfl)<|lp (iv (x188.length:Int)) (pu_len (A:=A194) (n:=x188.length) (m:=c195) underlying43 rfl)<|lp (iv 0) (pu_move rfl)<|ln (hK199 _ _ ?_)
 obtain ⟨o200,hl1,hb⟩:=bd hb
 refine Wc.cut (fun E wv=> ∃(x:Int) (f:List (List (Int×(Int×Int)))) (g:List Value),E 1=iv o∧E 2=iv p∧E 6=.slice none 0 0∧E 7=iv 0∧E 10=pg g141∧E 11=.slice A168 (((List.replicate (d.length:Int).toNat (Value.slice none 0 0))).length) c169∧E 12=iv c∧E 13=.slice A194 x188.length c195∧E 102=.slice (some ad39) d.length C∧E 103=iv (d.length:Int)∧E 104=iv c∧E 105=.bool (decide (c<(d.length:Int)))∧E 109=.slice A194 x188.length c195∧E 110=iv (x188.length:Int)∧E 111=iv x∧I64 x∧g.length=f.length∧Cx (fun _=>False) O0 w wv ([.box g141 23 [iv z135,iv z137,iv z139],.own 43 .raw (.slice A168 (((List.replicate (d.length:Int).toNat (Value.slice none 0 0))).length) c169) g,.ro (.sl (.pr si (.pr si si))) [.slice A194 x188.length c195] x188,.ro (.sl (.sl (.pr si (.pr si si)))) [.slice (some ad39) d.length C] d]++(rowsF 23 (.pr si (.pr si si)) g f++([]:List Fact)))∧((chk (c+1)).bind fun z345=>some (.inl (z345,f)):Option ((Int×(List (List (Int×(Int×Int)))))⊕((Int×(List (List (Int×(Int×Int))))))))=some o182) (fun _ hK201=>?_) ?_
 refine Wc.block ?_
 refine Wc.loop (fun m E wv=> ∃(x:Int) (f:List (List (Int×(Int×Int)))) (g:List Value),E 1=iv o∧E 2=iv p∧E 6=.slice none 0 0∧E 7=iv 0∧E 10=pg g141∧E 11=.slice A168 (((List.replicate (d.length:Int).toNat (Value.slice none 0 0))).length) c169∧E 12=iv c∧E 13=.slice A194 x188.length c195∧E 102=.slice (some ad39) d.length C∧E 103=iv (d.length:Int)∧E 104=iv c∧E 105=.bool (decide (c<(d.length:Int)))∧E 109=.slice A194 x188.length c195∧E 110=iv (x188.length:Int)∧E 111=iv x∧I64 x∧g.length=f.length∧Cx (fun _=>False) O0 w wv ([.box g141 23 [iv z135,iv z137,iv z139],.own 43 .raw (.slice A168 (((List.replicate (d.length:Int).toNat (Value.slice none 0 0))).length) c169) g,.ro (.sl (.pr si (.pr si si))) [.slice A194 x188.length c195] x188,.ro (.sl (.sl (.pr si (.pr si si)))) [.slice (some ad39) d.length C] d]++(rowsF 23 (.pr si (.pr si si)) g f++([]:List Fact)))∧loopN m (F.polygon_Subdivide_b1 n o p z135 z137 z139 c x188) (x,f)=some o200) n ⟨0,y,z,e1,e2,e6,e7,e10,e11,rfl,rfl,e102,e103,e104,rfl,rfl,rfl,rfl,(show I64 0 from by unfold I64; omega),N,hC.selT [1,2,0,3] (by decide),hl1⟩ ?_
 have hbK1:=hb
 clear hb hC hl1
 rintro m203 E205 w204 ⟨x,f,g,e1,e2,e6,e7,e10,e11,e12,e13,e102,e103,e104,e105,e109,e110,e111,M,D,hC,hl1⟩ K202 hK202
 obtain ⟨m203',o206,rfl,hb,hl1⟩:=loopN_some hl1
 unfold F.polygon_Subdivide_b1 at hb
 refine Wc.seq fun _ hK207=>rg ?_
 replace hC:Cx _ O0 w _ ([_,.own 43 .raw (.slice A168 (((List.replicate (d.length:Int).toNat (Value.slice none 0 0))).length) c169) g,_,_]++(rowsF 23 (.pr si (.pr si si)) g f++([]:List Fact))):=hC
 refine lp _ (pu_lss e111 e110)<|ln (hK207 _ _ ?_)
 refine Wc.seq fun _ hK208=>?_
 refine Wc.cond (t:=(decide (x<(x188.length:Int)))) (rfl) (fun hq209=>?_) (fun hq209=>?_)
 replace hb:=tt hq209 hb
 refine Wc.skip (hK208 _ _ ?_)
 refine Wc.seq fun _ hK210=>?_
 refine Wc.block<|Wc.seq fun _ hK211=>rg<|lp _ (pu_move e111) ?_
 obtain ⟨x212,h213,hb⟩:=bd hb
 obtain ⟨ad214,cs215,hA,hc216,hr217⟩:=hC.elr (i:=2) rfl (get_some h213).2
 subst hA
 refine lp (.pointer (some (ad214.add (x.toNat*3)))) (pu_index (a:=x) underlying43 sizeOf23 e109 e111 (get_some h213).1) ?_
 replace hC:Cx _ O0 w _ ([_,_,.ro (.sl (.pr si (.pr si si))) [.slice (some ad214) x188.length c195] x188,_]++(rowsF 23 (.pr si (.pr si si)) g f++([]:List Fact))):=hC
 obtain ⟨k218,k219,rfl,hr220,hr221⟩:=hr217
 obtain ⟨rfl,hr220⟩:=hr220
 obtain ⟨k222,k223,rfl,hr224,hr225⟩:=hr221
 obtain ⟨rfl,hr224⟩:=hr224
 obtain ⟨rfl,hr225⟩:=hr225
 refine lv (.agg #[iv x212.1,iv x212.2.1,iv x212.2.2]) (ld_agg isAgg23 sizeOf23 rfl rfl hc216)<|lex.op (hC.alloc (cs:=[iv 0,iv 0,iv 0]) zeroValue23 rfl) ?_
 rintro _ w227 ⟨g226,rfl,hC,hF,-⟩
 replace hC:Cx _ O0 w _ ([.box g226 23 [iv 0,iv 0,iv 0],_,_,_,_]++(rowsF 23 (.pr si (.pr si si)) g f++([]:List Fact))):=hC
 refine lp (iv x) (pu_assign rfl)<|lex.sk (hC.seta (i:=0) (ds:=[iv x212.1,iv x212.2.1,iv x212.2.2]) rfl type23 rfl rfl rfl rfl rfl) ?_
 rintro w229 ⟨hC,hF⟩
 refine ln (hK211 _ _ ?_)
 refine Wc.seq fun _ hK230=>?_
 replace hC:Cx _ O0 w _ ([.box g226 23 [iv x212.1,iv x212.2.1,iv x212.2.2],_,_,_,_]++(rowsF 23 (.pr si (.pr si si)) g f++([]:List Fact))):=hC
 obtain ⟨x231,h232,hb⟩:=bd hb
 obtain ⟨v233,hv234,-⟩:=rowsF_get (e:=23) (s:=(.pr si (.pr si si))) D (get_some h232).2
 replace hC:=Cx.takeRow hC hv234 (get_some h232).2
 obtain ⟨A235,c236,hvf239,hl237,hc238⟩:=(hC.ow (i:=0) rfl).form
 subst hvf239
 replace hC:Cx _ O0 w _ ([.own 23 (.pr si (.pr si si)) (.slice A235 x231.length c236) x231,_,_,_,_,_]++((rowsF 23 (.pr si (.pr si si)) g f).eraseIdx c.toNat++([]:List Fact))):=hC
 refine Wc.regionMix [122] (frm [122] [.own 23 (.pr si (.pr si si)) (.slice A235 x231.length c236) x231] [.own 43 .raw (.slice A168 (((List.replicate (d.length:Int).toNat (Value.slice none 0 0))).length) c169) g]) (fun _=>rfl) mixed (by decide+kernel) (by decide+kernel) fun w242 hw241=>?_
 replace hC:=hC.step (Fr.of_drew hw241)
 have hM:=Fr.refl (fun k=>k∈blocks [.own 23 (.pr si (.pr si si)) (.slice A235 x231.length c236) x231]) w242
 clear hw241
 have hS:=hC
 have hBf240:Beside [.own 23 (.pr si (.pr si si)) (.slice A235 x231.length c236) x231] w242 (.slice A235 x231.length c236):=Beside.of (i:=0) rfl
 have hD:Fr (fun k=>k∈blocks ([.own 23 (.pr si (.pr si si)) (.slice A235 x231.length c236) x231]++[.own 43 .raw (.slice A168 (((List.replicate (d.length:Int).toNat (Value.slice none 0 0))).length) c169) g])) w242 w242:=hM.wide
 have hUf240:Beside ([.own 23 (.pr si (.pr si si)) (.slice A235 x231.length c236) x231]++[.own 43 .raw (.slice A168 (((List.replicate (d.length:Int).toNat (Value.slice none 0 0))).length) c169) g]) w242 (.slice A235 x231.length c236):=Beside.of (i:=0) rfl
 have hUf173:Beside ([.own 23 (.pr si (.pr si si)) (.slice A235 x231.length c236) x231]++[.own 43 .raw (.slice A168 (((List.replicate (d.length:Int).toNat (Value.slice none 0 0))).length) c169) g]) w242 (.slice A168 (((List.replicate (d.length:Int).toNat (Value.slice none 0 0))).length) c169):=Beside.of (i:=1) rfl
 replace hC:Cx _ O0 w _ ([_,_,_,_,_,_]++((rowsF 23 (.pr si (.pr si si)) g f).eraseIdx c.toNat++([]:List Fact))):=hC
 refine mp (.slice A168 (((List.replicate (d.length:Int).toNat (Value.slice none 0 0))).length) c169) (pu_move e11)<|mp (iv c) (pu_move e12)<|mp (.slice A168 (((List.replicate (d.length:Int).toNat (Value.slice none 0 0))).length) c169) (pu_move e11)<|mp (iv c) (pu_move e12) ?_
 obtain ⟨x243,h244,hb⟩:=bd hb
 obtain ⟨v249,hv250,-⟩:=rowsF_get (e:=23) (s:=(.pr si (.pr si si))) D (get_some h244).2
 obtain ⟨ad245,cs246,hA,ho251,hc247,hr248⟩:=hS.elo2 (i:=3) rfl hv250 [0] (by decide)
 subst hA
 refine mp (.pointer (some (ad245.add (c.toNat*1)))) (pu_index (a:=c) underlying28 sizeOf43 rfl rfl (by rw [(hC.ow (i:=3) rfl).sl_len.1,D]; exact (get_some h244).1)) ?_
 replace hC:Cx _ O0 w _ ([_,_,_,.own 43 .raw (.slice (some ad245) (((List.replicate (d.length:Int).toNat (Value.slice none 0 0))).length) c169) g,_,_]++((rowsF 23 (.pr si (.pr si si)) g f).eraseIdx c.toNat++([]:List Fact))):=hC
 obtain rfl:=Option.some.inj (hv250.symm.trans hv234)
 obtain ⟨rfl,-⟩:=hr248
 refine mixE.load hM (v:=.slice A235 x231.length c236) (fun _ hF=>ld_one isAgg43 rfl (hF.cell (hc247 0 _ rfl) (off1 ho251)))<|mixE.steady hD (v:=.agg #[iv x212.1,iv x212.2.1,iv x212.2.2]) (fun _ hF=>ld_blk (hS.bx2 (i:=1) rfl [0,3] (by decide) hF) isAgg23 sizeOf23 rfl)<|mixE.op hM (hC.lit (s:=(.pr si (.pr si si))) (vs:=[.agg #[iv x212.1,iv x212.2.1,iv x212.2.2]]) (xs:=[(x212.1,(x212.2.1,x212.2.2))]) underlying43 type23 rfl rfl (nb rfl) rfl rfl (by simp [Value.cells,Sh.n]) rfl (show Elems _ _ (.pr si (.pr si si)) ([iv x212.1,iv x212.2.1,iv x212.2.2]++([])) ([(x212.1,(x212.2.1,x212.2.2))]:List (Int×(Int×Int))) from Elems.cons (⟨[iv x212.1],[iv x212.2.1,iv x212.2.2],rfl,⟨rfl,I64.wr (wrap_I64 hr220)⟩,⟨[iv x212.2.1],[iv x212.2.2],rfl,⟨rfl,I64.wr (wrap_I64 hr224)⟩,⟨rfl,I64.wr (wrap_I64 hr225)⟩⟩⟩) (Elems.nil _ _ _))) ?_
 rintro _ w256 ⟨A252,c253,rfl,hl254,hc255,hC,hF,hN⟩
 have hBf257:=Beside.new hM hN
 have hUf257:=Beside.new (hM.wide (H:=[.own 43 .raw (.slice (some ad245) (((List.replicate (d.length:Int).toNat (Value.slice none 0 0))).length) c169) g])) hN
 replace hM:=hM.none hF
 replace hD:=hM.wide (H:=[.own 43 .raw (.slice (some ad245) (((List.replicate (d.length:Int).toNat (Value.slice none 0 0))).length) c169) g])
 refine ⟨hM,?_⟩
 clear hF hN
 replace hC:Cx _ O0 w _ ([.own 23 (.pr si (.pr si si)) (.slice A252 ((([(x212.1,(x212.2.1,x212.2.2))]:List (Int×(Int×Int)))).length) c253) ([(x212.1,(x212.2.1,x212.2.2))]:List (Int×(Int×Int))),_,_,_,_,_,_]++((rowsF 23 (.pr si (.pr si si)) g f).eraseIdx c.toNat++([]:List Fact))):=hC
 obtain ⟨u258,h259,hb⟩:=bd hb
 refine mixE.op hM (hC.app (i:=1) (s:=(.pr si (.pr si si))) (xs:=x231) (ys:=([(x212.1,(x212.2.1,x212.2.2))]:List (Int×(Int×Int)))) (m:=((([(x212.1,(x212.2.1,x212.2.2))]:List (Int×(Int×Int)))).length)) rfl underlying43 underlying43 type23 rfl rfl rfl (hC.srco (i:=0) rfl) rfl rfl (by have:=lim_some h259; simp at this⊢ <;>omega) (by decide)) ?_
 rintro _ w264 ⟨A260,c261,rfl,hl262,hc263,hC,hF,hN⟩
 have hB:=hBf240
 replace hBf240:=hB.app hM hN
 replace hM:=hM.beside hB hF
 clear hB
 replace hD:=hM.wide (H:=[.own 43 .raw (.slice (some ad245) (((List.replicate (d.length:Int).toNat (Value.slice none 0 0))).length) c169) g])
 refine ⟨hM,?_⟩
 clear hF hN
 replace hC:Cx _ O0 w _ ([_,.own 23 (.pr si (.pr si si)) (.slice A260 ((x231++([(x212.1,(x212.2.1,x212.2.2))]:List (Int×(Int×Int)))).length) c261) (x231++([(x212.1,(x212.2.1,x212.2.2))]:List (Int×(Int×Int)))),_,_,_,_,_]++((rowsF 23 (.pr si (.pr si si)) g f).eraseIdx c.toNat++([]:List Fact))):=hC
 obtain ⟨x265,h266,hb⟩:=bd hb
 obtain ⟨v271,hv272,-⟩:=rowsF_get (e:=23) (s:=(.pr si (.pr si si))) D (get_some h266).2
 obtain ⟨ad267,cs268,hA,ho273,hc269,hr270⟩:=hS.elo2 (i:=3) rfl hv272 [0] (by decide)
 obtain rfl:=Option.some.inj hA
 refine mp (.pointer (some (ad245.add (c.toNat*1)))) (pu_index (a:=c) underlying28 sizeOf43 rfl rfl (by rw [(hC.ow (i:=4) rfl).sl_len.1,D]; exact (get_some h266).1))<|mixE.sk hD (hC.put (i:=4) (s:=.raw) rfl rfl sizeOf43 (k:=c.toNat) (a:=Value.slice A260 ((x231++([(x212.1,(x212.2.1,x212.2.2))]:List (Int×(Int×Int)))).length) c261) (by rw [D]; exact (List.getElem?_eq_some_iff.1 (get_some h266).2).1) (show Rep _ _ .raw [Value.slice A260 ((x231++([(x212.1,(x212.2.1,x212.2.2))]:List (Int×(Int×Int)))).length) c261] (Value.slice A260 ((x231++([(x212.1,(x212.2.1,x212.2.2))]:List (Int×(Int×Int)))).length) c261) from ⟨rfl,rfl⟩) rfl rfl rfl) ?_
 rintro w274 ⟨hC,hF⟩
 replace hD:=hD.beside hUf173 hF
 clear hF
 refine ⟨hD,?_⟩
 replace hC:Cx _ O0 w _ ([_,_,_,_,.own 43 .raw (.slice (some ad245) (((List.replicate (d.length:Int).toNat (Value.slice none 0 0))).length) c169) (g.set c.toNat (Value.slice A260 ((x231++([(x212.1,(x212.2.1,x212.2.2))]:List (Int×(Int×Int)))).length) c261)),_,_]++((rowsF 23 (.pr si (.pr si si)) g f).eraseIdx c.toNat++([]:List Fact))):=hC
 replace hC:=hC.selT [1,0,2,3,4,5,6] (by decide)
 replace hC:=Cx.putRow hC D (List.getElem?_eq_some_iff.1 (get_some h266).2).1
 have hN275:(g.set c.toNat (Value.slice A260 ((x231++([(x212.1,(x212.2.1,x212.2.2))]:List (Int×(Int×Int)))).length) c261)).length=(f.set c.toNat (x231++([(x212.1,(x212.2.1,x212.2.2))]:List (Int×(Int×Int))))).length:=lenset D _ _ _ _
 replace hC:Cx _ O0 w _ ([_,_,_,_,_,_]++(rowsF 23 (.pr si (.pr si si)) (g.set c.toNat (Value.slice A260 ((x231++([(x212.1,(x212.2.1,x212.2.2))]:List (Int×(Int×Int)))).length) c261)) (f.set c.toNat (x231++([(x212.1,(x212.2.1,x212.2.2))]:List (Int×(Int×Int)))))++([]:List Fact))):=hC
 refine mixE.nil ?_
 clear hS hM
 clear hD
 refine hK230 _ _<|Wc.fresh fun E276 hE=>?_
 have e1:=cg hE 1 e1
 have e2:=cg hE 2 e2
 have e6:=cg hE 6 e6
 have e7:=cg hE 7 e7
 have e10:=cg hE 10 e10
 have e11:=cg hE 11 e11
 have e12:=cg hE 12 e12
 have e13:=cg hE 13 e13
 have e14:E276 14=iv x:=cg hE 14 rfl
 have e15:E276 15=pg g226:=cg hE 15 rfl
 have e102:=cg hE 102 e102
 have e103:=cg hE 103 e103
 have e104:=cg hE 104 e104
 have e105:=cg hE 105 e105
 have e109:=cg hE 109 e109
 have e110:=cg hE 110 e110
 have e111:=cg hE 111 e111
 have e112:E276 112=.bool (decide (x<(x188.length:Int))):=cg hE 112 rfl
 clear hE
 refine Wc.seqJ (fun E wv=> ∃(J:Bool),E 1=iv o∧E 2=iv p∧E 6=.slice none 0 0∧E 7=iv 0∧E 10=pg g141∧E 11=.slice (some ad245) (((List.replicate (d.length:Int).toNat (Value.slice none 0 0))).length) c169∧E 12=iv c∧E 13=.slice (some ad214) x188.length c195∧E 14=iv x∧E 15=pg g226∧E 102=.slice (some ad39) d.length C∧E 103=iv (d.length:Int)∧E 104=iv c∧E 105=.bool (decide (c<(d.length:Int)))∧E 109=.slice (some ad214) x188.length c195∧E 110=iv (x188.length:Int)∧E 111=iv x∧E 112=.bool (decide (x<(x188.length:Int)))∧E 133=.bool J∧Cx (fun _=>False) O0 w wv ([.box g141 23 [iv z135,iv z137,iv z139],.own 43 .raw (.slice (some ad245) (((List.replicate (d.length:Int).toNat (Value.slice none 0 0))).length) c169) (g.set c.toNat (Value.slice A260 ((x231++([(x212.1,(x212.2.1,x212.2.2))]:List (Int×(Int×Int)))).length) c261)),.ro (.sl (.pr si (.pr si si))) [.slice (some ad214) x188.length c195] x188,.box g226 23 [iv x212.1,iv x212.2.1,iv x212.2.2],.ro (.sl (.sl (.pr si (.pr si si)))) [.slice (some ad39) d.length C] d]++(rowsF 23 (.pr si (.pr si si)) (g.set c.toNat (Value.slice A260 ((x231++([(x212.1,(x212.2.1,x212.2.2))]:List (Int×(Int×Int)))).length) c261)) (f.set c.toNat (x231++([(x212.1,(x212.2.1,x212.2.2))]:List (Int×(Int×Int)))))++([]:List Fact)))∧F.polygon_Subdivide_j2 n z135 z137 z139 c x f x212 x231 J=some o206) (fun _ hK277=>?_) ?_
 refine rg<|lp _ (pu_move e12)<|lp _ (pu_move e1)<|lp (.bool (decide (c=o))) (pu_eql (k:=.i64) (a:=c) (b:=o) rfl rfl)<|lp (.bool (decide (c=o))) (pu_move rfl) ?_
 rcases bS (decide (c=o)) with hq278 | hq278
 replace hb:=tt hq278 hb
 refine gp rfl rfl (decide (c=o)) rfl hq278 (iv x) (pu_move e14)<|gp rfl rfl (decide (c=o)) rfl hq278 (iv p) (pu_move e2)<|gp rfl rfl (decide (c=o)) rfl hq278 (.bool (decide (x=p))) (pu_eql (k:=.i64) (a:=x) (b:=p) rfl rfl)<|lp (.bool (decide (x=p))) (pu_pickT (q:=(decide (c=o))) rfl hq278 rfl)<|ln ?_
 exact hK277 _ _ ⟨(decide (x=p)),e1,e2,e6,e7,e10,e11,e12,e13,e14,e15,e102,e103,e104,e105,e109,e110,e111,e112,rfl,hC.selT [2,3,4,1,5] (by decide),hb⟩
 replace hb:=tf hq278 hb
 refine gs rfl rfl (decide (c=o)) rfl hq278<|gs rfl rfl (decide (c=o)) rfl hq278<|gs rfl rfl (decide (c=o)) rfl hq278<|lp (.bool false) (pu_pickF (q:=(decide (c=o))) rfl hq278 rfl)<|ln ?_
 exact hK277 _ _ ⟨false,e1,e2,e6,e7,e10,e11,e12,e13,e14,e15,e102,e103,e104,e105,e109,e110,e111,e112,rfl,hC.selT [2,3,4,1,5] (by decide),hb⟩
 clear hb hC
 rintro E280 w279 ⟨J,e1,e2,e6,e7,e10,e11,e12,e13,e14,e15,e102,e103,e104,e105,e109,e110,e111,e112,e133,hC,hb⟩
 unfold F.polygon_Subdivide_j2 at hb
 refine Wc.cond (t:=J) (e133) (fun hq281=>?_) (fun hq281=>?_)
 replace hb:=tt hq281 hb
 replace hC:Cx _ O0 w _ ([_,_,_,_,_]++(rowsF 23 (.pr si (.pr si si)) (g.set c.toNat (Value.slice A260 ((x231++([(x212.1,(x212.2.1,x212.2.2))]:List (Int×(Int×Int)))).length) c261)) (f.set c.toNat (x231++([(x212.1,(x212.2.1,x212.2.2))]:List (Int×(Int×Int)))))++([]:List Fact))):=hC
 obtain ⟨x282,h283,hb⟩:=bd hb
 obtain ⟨v284,hv285,-⟩:=rowsF_get (e:=23) (s:=(.pr si (.pr si si))) hN275 (get_some h283).2
 replace hC:=Cx.takeRow hC hv285 (get_some h283).2
 obtain ⟨A286,c287,hvf290,hl288,hc289⟩:=(hC.ow (i:=0) rfl).form
 subst hvf290
 replace hC:Cx _ O0 w _ ([.own 23 (.pr si (.pr si si)) (.slice A286 x282.length c287) x282,_,_,_,_,_]++((rowsF 23 (.pr si (.pr si si)) (g.set c.toNat (Value.slice A260 ((x231++([(x212.1,(x212.2.1,x212.2.2))]:List (Int×(Int×Int)))).length) c261)) (f.set c.toNat (x231++([(x212.1,(x212.2.1,x212.2.2))]:List (Int×(Int×Int)))))).eraseIdx c.toNat++([]:List Fact))):=hC
 refine Wc.regionMix [141,144,147] (frm [141,144,147] [.own 23 (.pr si (.pr si si)) (.slice A286 x282.length c287) x282] [.own 43 .raw (.slice (some ad245) (((List.replicate (d.length:Int).toNat (Value.slice none 0 0))).length) c169) (g.set c.toNat (Value.slice A260 ((x231++([(x212.1,(x212.2.1,x212.2.2))]:List (Int×(Int×Int)))).length) c261))]) (fun _=>rfl) mixed (by decide+kernel) (by decide+kernel) fun w293 hw292=>?_
 replace hC:=hC.step (Fr.of_drew hw292)
 have hM:=Fr.refl (fun k=>k∈blocks [.own 23 (.pr si (.pr si si)) (.slice A286 x282.length c287) x282]) w293
 clear hw292
 have hS:=hC
 have hBf291:Beside [.own 23 (.pr si (.pr si si)) (.slice A286 x282.length c287) x282] w293 (.slice A286 x282.length c287):=Beside.of (i:=0) rfl
 have hD:Fr (fun k=>k∈blocks ([.own 23 (.pr si (.pr si si)) (.slice A286 x282.length c287) x282]++[.own 43 .raw (.slice (some ad245) (((List.replicate (d.length:Int).toNat (Value.slice none 0 0))).length) c169) (g.set c.toNat (Value.slice A260 ((x231++([(x212.1,(x212.2.1,x212.2.2))]:List (Int×(Int×Int)))).length) c261))])) w293 w293:=hM.wide
 have hUf291:Beside ([.own 23 (.pr si (.pr si si)) (.slice A286 x282.length c287) x282]++[.own 43 .raw (.slice (some ad245) (((List.replicate (d.length:Int).toNat (Value.slice none 0 0))).length) c169) (g.set c.toNat (Value.slice A260 ((x231++([(x212.1,(x212.2.1,x212.2.2))]:List (Int×(Int×Int)))).length) c261))]) w293 (.slice A286 x282.length c287):=Beside.of (i:=0) rfl
 have hUf173:Beside ([.own 23 (.pr si (.pr si si)) (.slice A286 x282.length c287) x282]++[.own 43 .raw (.slice (some ad245) (((List.replicate (d.length:Int).toNat (Value.slice none 0 0))).length) c169) (g.set c.toNat (Value.slice A260 ((x231++([(x212.1,(x212.2.1,x212.2.2))]:List (Int×(Int×Int)))).length) c261))]) w293 (.slice (some ad245) (((List.replicate (d.length:Int).toNat (Value.slice none 0 0))).length) c169):=Beside.of (i:=1) rfl
 replace hC:Cx _ O0 w _ ([_,_,_,_,_,_]++((rowsF 23 (.pr si (.pr si si)) (g.set c.toNat (Value.slice A260 ((x231++([(x212.1,(x212.2.1,x212.2.2))]:List (Int×(Int×Int)))).length) c261)) (f.set c.toNat (x231++([(x212.1,(x212.2.1,x212.2.2))]:List (Int×(Int×Int)))))).eraseIdx c.toNat++([]:List Fact))):=hC
 refine mp (.slice (some ad245) (((List.replicate (d.length:Int).toNat (Value.slice none 0 0))).length) c169) (pu_move e11)<|mp (iv c) (pu_move e12)<|mp (.slice (some ad245) (((List.replicate (d.length:Int).toNat (Value.slice none 0 0))).length) c169) (pu_move e11)<|mp (iv c) (pu_move e12) ?_
 obtain ⟨x294,h295,hb⟩:=bd hb
 obtain ⟨v300,hv301,-⟩:=rowsF_get (e:=23) (s:=(.pr si (.pr si si))) hN275 (get_some h295).2
 obtain ⟨ad296,cs297,hA,ho302,hc298,hr299⟩:=hS.elo2 (i:=2) rfl hv301 [0] (by decide)
 obtain rfl:=Option.some.inj hA
 refine mp (.pointer (some (ad245.add (c.toNat*1)))) (pu_index (a:=c) underlying28 sizeOf43 rfl rfl (by rw [(hC.ow (i:=2) rfl).sl_len.1,hN275]; exact (get_some h295).1)) ?_
 obtain rfl:=Option.some.inj (hv301.symm.trans hv285)
 obtain ⟨rfl,-⟩:=hr299
 refine mixE.load hM (v:=.slice A286 x282.length c287) (fun _ hF=>ld_one isAgg43 rfl (hF.cell (hc298 0 _ rfl) (off1 ho302)))<|mp (.pointer (some ((⟨g141,0,none⟩:Addr).add 0))) (pu_field (sz:=1) underlying23 rfl sizeOf3 (by decide) rfl e10)<|mixE.steady hD (v:=iv z135) (fun _ hF=>ld_fld (hS.bx2 (i:=1) rfl [0,2] (by decide) hF) isAgg3 rfl rfl) ?_
 obtain ⟨u303,h304,hb⟩:=bd hb
 obtain ⟨z305,h306,hb⟩:=bd hb
 refine mp (iv z305) (pu_quoc (a:=z135) (b:=2) rfl rfl h304 h306)<|mp (.pointer (some ((⟨g141,0,none⟩:Addr).add 1))) (pu_field (sz:=1) underlying23 rfl sizeOf3 (by decide) rfl e10)<|mixE.steady hD (v:=iv z137) (fun _ hF=>ld_fld (hS.bx2 (i:=1) rfl [0,2] (by decide) hF) isAgg3 rfl rfl) ?_
 obtain ⟨u307,h308,hb⟩:=bd hb
 obtain ⟨z309,h310,hb⟩:=bd hb
 refine mp (iv z309) (pu_quoc (a:=z137) (b:=2) rfl rfl h308 h310)<|mp (.pointer (some ((⟨g141,0,none⟩:Addr).add 2))) (pu_field (sz:=1) underlying23 rfl sizeOf3 (by decide) rfl e10)<|mixE.steady hD (v:=iv z139) (fun _ hF=>ld_fld (hS.bx2 (i:=1) rfl [0,2] (by decide) hF) isAgg3 rfl rfl) ?_
 obtain ⟨u311,h312,hb⟩:=bd hb
 obtain ⟨z313,h314,hb⟩:=bd hb
 refine mp (iv z313) (pu_quoc (a:=z139) (b:=2) rfl rfl h312 h314)<|mp (.agg #[iv z305,iv z309,iv z313]) (pu_builds (places:=[(0,1),(1,1),(2,1)]) (pv:=[(0,iv z305),(1,iv z309),(2,iv z313)]) type23 underlying23 rfl (mp_cons type3 (mp_cons type3 (mp_cons type3 mp_nil rfl rfl) rfl rfl) rfl rfl) rfl (by simp [Instr.fill,Value.cells]))<|mixE.op hM (hC.lit (s:=(.pr si (.pr si si))) (vs:=[.agg #[iv z305,iv z309,iv z313]]) (xs:=[(z305,(z309,z313))]) underlying43 type23 rfl rfl (nb rfl) rfl rfl (by simp [Value.cells,Sh.n]) rfl (show Elems _ _ (.pr si (.pr si si)) ([iv z305,iv z309,iv z313]++([])) ([(z305,(z309,z313))]:List (Int×(Int×Int))) from Elems.cons (⟨[iv z305],[iv z309,iv z313],rfl,⟨rfl,I64.wr (chk_rng h306)⟩,⟨[iv z309],[iv z313],rfl,⟨rfl,I64.wr (chk_rng h310)⟩,⟨rfl,I64.wr (chk_rng h314)⟩⟩⟩) (Elems.nil _ _ _))) ?_
 rintro _ w319 ⟨A315,c316,rfl,hl317,hc318,hC,hF,hN⟩
 have hBf320:=Beside.new hM hN
 have hUf320:=Beside.new (hM.wide (H:=[.own 43 .raw (.slice (some ad245) (((List.replicate (d.length:Int).toNat (Value.slice none 0 0))).length) c169) (g.set c.toNat (Value.slice A260 ((x231++([(x212.1,(x212.2.1,x212.2.2))]:List (Int×(Int×Int)))).length) c261))])) hN
 replace hM:=hM.none hF
 replace hD:=hM.wide (H:=[.own 43 .raw (.slice (some ad245) (((List.replicate (d.length:Int).toNat (Value.slice none 0 0))).length) c169) (g.set c.toNat (Value.slice A260 ((x231++([(x212.1,(x212.2.1,x212.2.2))]:List (Int×(Int×Int)))).length) c261))])
 refine ⟨hM,?_⟩
 clear hF hN
 replace hC:Cx _ O0 w _ ([.own 23 (.pr si (.pr si si)) (.slice A315 ((([(z305,(z309,z313))]:List (Int×(Int×Int)))).length) c316) ([(z305,(z309,z313))]:List (Int×(Int×Int))),_,_,_,_,_,_]++((rowsF 23 (.pr si (.pr si si)) (g.set c.toNat (Value.slice A260 ((x231++([(x212.1,(x212.2.1,x212.2.2))]:List (Int×(Int×Int)))).length) c261)) (f.set c.toNat (x231++([(x212.1,(x212.2.1,x212.2.2))]:List (Int×(Int×Int)))))).eraseIdx c.toNat++([]:List Fact))):=hC
 obtain ⟨u321,h322,hb⟩:=bd hb
 refine mixE.op hM (hC.app (i:=1) (s:=(.pr si (.pr si si))) (xs:=x282) (ys:=([(z305,(z309,z313))]:List (Int×(Int×Int)))) (m:=((([(z305,(z309,z313))]:List (Int×(Int×Int)))).length)) rfl underlying43 underlying43 type23 rfl rfl rfl (hC.srco (i:=0) rfl) rfl rfl (by have:=lim_some h322; simp at this⊢ <;>omega) (by decide)) ?_
 rintro _ w327 ⟨A323,c324,rfl,hl325,hc326,hC,hF,hN⟩
 have hB:=hBf291
 replace hBf291:=hB.app hM hN
 replace hM:=hM.beside hB hF
 clear hB
 replace hD:=hM.wide (H:=[.own 43 .raw (.slice (some ad245) (((List.replicate (d.length:Int).toNat (Value.slice none 0 0))).length) c169) (g.set c.toNat (Value.slice A260 ((x231++([(x212.1,(x212.2.1,x212.2.2))]:List (Int×(Int×Int)))).length) c261))])
 refine ⟨hM,?_⟩
 clear hF hN
 replace hC:Cx _ O0 w _ ([_,.own 23 (.pr si (.pr si si)) (.slice A323 ((x282++([(z305,(z309,z313))]:List (Int×(Int×Int)))).length) c324) (x282++([(z305,(z309,z313))]:List (Int×(Int×Int)))),_,_,_,_,_]++((rowsF 23 (.pr si (.pr si si)) (g.set c.toNat (Value.slice A260 ((x231++([(x212.1,(x212.2.1,x212.2.2))]:List (Int×(Int×Int)))).length) c261)) (f.set c.toNat (x231++([(x212.1,(x212.2.1,x212.2.2))]:List (Int×(Int×Int)))))).eraseIdx c.toNat++([]:List Fact))):=hC
 obtain ⟨x328,h329,hb⟩:=bd hb
 obtain ⟨v334,hv335,-⟩:=rowsF_get (e:=23) (s:=(.pr si (.pr si si))) hN275 (get_some h329).2
 obtain ⟨ad330,cs331,hA,ho336,hc332,hr333⟩:=hS.elo2 (i:=2) rfl hv335 [0] (by decide)
 obtain rfl:=Option.some.inj hA
 refine mp (.pointer (some (ad245.add (c.toNat*1)))) (pu_index (a:=c) underlying28 sizeOf43 rfl rfl (by rw [(hC.ow (i:=3) rfl).sl_len.1,hN275]; exact (get_some h329).1))<|mixE.sk hD (hC.put (i:=3) (s:=.raw) rfl rfl sizeOf43 (k:=c.toNat) (a:=Value.slice A323 ((x282++([(z305,(z309,z313))]:List (Int×(Int×Int)))).length) c324) (by rw [hN275]; exact (List.getElem?_eq_some_iff.1 (get_some h329).2).1) (show Rep _ _ .raw [Value.slice A323 ((x282++([(z305,(z309,z313))]:List (Int×(Int×Int)))).length) c324] (Value.slice A323 ((x282++([(z305,(z309,z313))]:List (Int×(Int×Int)))).length) c324) from ⟨rfl,rfl⟩) rfl rfl rfl) ?_
 rintro w337 ⟨hC,hF⟩
 replace hD:=hD.beside hUf173 hF
 clear hF
 refine ⟨hD,?_⟩
 replace hC:Cx _ O0 w _ ([_,_,_,.own 43 .raw (.slice (some ad245) (((List.replicate (d.length:Int).toNat (Value.slice none 0 0))).length) c169) ((g.set c.toNat (Value.slice A260 ((x231++([(x212.1,(x212.2.1,x212.2.2))]:List (Int×(Int×Int)))).length) c261)).set c.toNat (Value.slice A323 ((x282++([(z305,(z309,z313))]:List (Int×(Int×Int)))).length) c324)),_,_,_]++((rowsF 23 (.pr si (.pr si si)) (g.set c.toNat (Value.slice A260 ((x231++([(x212.1,(x212.2.1,x212.2.2))]:List (Int×(Int×Int)))).length) c261)) (f.set c.toNat (x231++([(x212.1,(x212.2.1,x212.2.2))]:List (Int×(Int×Int)))))).eraseIdx c.toNat++([]:List Fact))):=hC
 replace hC:=hC.selT [1,0,2,3,4,5,6] (by decide)
 replace hC:=Cx.putRow hC hN275 (List.getElem?_eq_some_iff.1 (get_some h329).2).1
 have hN338:((g.set c.toNat (Value.slice A260 ((x231++([(x212.1,(x212.2.1,x212.2.2))]:List (Int×(Int×Int)))).length) c261)).set c.toNat (Value.slice A323 ((x282++([(z305,(z309,z313))]:List (Int×(Int×Int)))).length) c324)).length=((f.set c.toNat (x231++([(x212.1,(x212.2.1,x212.2.2))]:List (Int×(Int×Int))))).set c.toNat (x282++([(z305,(z309,z313))]:List (Int×(Int×Int))))).length:=lenset hN275 _ _ _ _
 replace hC:Cx _ O0 w _ ([_,_,_,_,_,_]++(rowsF 23 (.pr si (.pr si si)) ((g.set c.toNat (Value.slice A260 ((x231++([(x212.1,(x212.2.1,x212.2.2))]:List (Int×(Int×Int)))).length) c261)).set c.toNat (Value.slice A323 ((x282++([(z305,(z309,z313))]:List (Int×(Int×Int)))).length) c324)) ((f.set c.toNat (x231++([(x212.1,(x212.2.1,x212.2.2))]:List (Int×(Int×Int))))).set c.toNat (x282++([(z305,(z309,z313))]:List (Int×(Int×Int)))))++([]:List Fact))):=hC
 refine mixE.nil ?_
 clear hS hM
 clear hD
 refine hK210 _ _<|rg ?_
 obtain ⟨z339,h340,hb⟩:=bd hb
 refine lp (iv z339) (pu_addc (a:=x) (b:=1) e111 rfl h340)<|lp (iv z339) (pu_move rfl)<|ln ?_
 obtain rfl:=os hb
 exact hK202 m203' _ _ (Nat.lt_succ_self _) ⟨z339,((f.set c.toNat (x231++([(x212.1,(x212.2.1,x212.2.2))]:List (Int×(Int×Int))))).set c.toNat (x282++([(z305,(z309,z313))]:List (Int×(Int×Int))))),((g.set c.toNat (Value.slice A260 ((x231++([(x212.1,(x212.2.1,x212.2.2))]:List (Int×(Int×Int)))).length) c261)).set c.toNat (Value.slice A323 ((x282++([(z305,(z309,z313))]:List (Int×(Int×Int)))).length) c324)),e1,e2,e6,e7,e10,e11,e12,e13,e102,e103,e104,e105,e109,e110,rfl,(chk_rng h340),hN338,hC.selT [1,2,3,5] (by decide),lN hl1⟩
 replace hb:=tf hq281 hb
 refine Wc.skip (hK210 _ _ ?_)
 refine rg ?_
 replace hC:Cx _ O0 w _ ([_,.own 43 .raw (.slice (some ad245) (((List.replicate (d.length:Int).toNat (Value.slice none 0 0))).length) c169) (g.set c.toNat (Value.slice A260 ((x231++([(x212.1,(x212.2.1,x212.2.2))]:List (Int×(Int×Int)))).length) c261)),_,_,_]++(rowsF 23 (.pr si (.pr si si)) (g.set c.toNat (Value.slice A260 ((x231++([(x212.1,(x212.2.1,x212.2.2))]:List (Int×(Int×Int)))).length) c261)) (f.set c.toNat (x231++([(x212.1,(x212.2.1,x212.2.2))]:List (Int×(Int×Int)))))++([]:List Fact))):=hC
 obtain ⟨z341,h342,hb⟩:=bd hb
 refine lp (iv z341) (pu_addc (a:=x) (b:=1) e111 rfl h342)<|lp (iv z341) (pu_move rfl)<|ln ?_
 obtain rfl:=os hb
 exact hK202 m203' _ _ (Nat.lt_succ_self _) ⟨z341,(f.set c.toNat (x231++([(x212.1,(x212.2.1,x212.2.2))]:List (Int×(Int×Int))))),(g.set c.toNat (Value.slice A260 ((x231++([(x212.1,(x212.2.1,x212.2.2))]:List (Int×(Int×Int)))).length) c261)),e1,e2,e6,e7,e10,e11,e12,e13,e102,e103,e104,e105,e109,e110,rfl,(chk_rng h342),hN275,hC.selT [0,1,2,4] (by decide),lN hl1⟩
 replace hb:=tf hq209 hb
 refine Wc.exit rfl ?_
 obtain rfl:=os hb
 obtain rfl:=(lX hl1).symm
 exact hK201 _ _ ⟨x,f,g,e1,e2,e6,e7,e10,e11,e12,e13,e102,e103,e104,e105,e109,e110,e111,M,D,hC.selT [0,1,2,3] (by decide),hbK1⟩
 clear hb hC hl1
 rintro E344 w343 ⟨x,f,g,e1,e2,e6,e7,e10,e11,e12,e13,e102,e103,e104,e105,e109,e110,e111,M,D,hC,hb⟩
 refine hK186 _ _<|rg ?_
 replace hC:Cx _ O0 w _ ([_,.own 43 .raw (.slice A168 (((List.replicate (d.length:Int).toNat (Value.slice none 0 0))).length) c169) g,.ro (.sl (.pr si (.pr si si))) [.slice A194 x188.length c195] x188,_]++(rowsF 23 (.pr si (.pr si si)) g f++([]:List Fact))):=hC
 obtain ⟨z345,h346,hb⟩:=bd hb
 refine lp (iv z345) (pu_addc (a:=c) (b:=1) e104 rfl h346)<|lp (iv z345) (pu_move rfl)<|ln ?_
 obtain rfl:=os hb
 exact hK178 m179' _ _ (Nat.lt_succ_self _) ⟨z345,f,g,e1,e2,e6,e7,e10,e11,e102,e103,rfl,(chk_rng h346),D,hC.selT [0,1,3] (by decide),lN hl0⟩
 replace hb:=tf hq185 hb
 refine Wc.exit rfl ?_
 obtain rfl:=os hb
 obtain rfl:=(lX hl0).symm
 exact hK177 _ _ ⟨c,y,z,e6,e7,e11,L,N,hC.selT [1] (by decide),hbK0⟩
 clear hb hC hl0
 rintro E348 w347 ⟨c,y,z,e6,e7,e11,L,N,hC,hb⟩
 subst hf176
 refine hK174 _ _<|Wc.seq fun _ hK349=>rg ?_
 replace hC:Cx _ O0 w _ ([.own 43 .raw (.slice A168 (((List.replicate (d.length:Int).toNat (Value.slice none 0 0))).length) c169) z]++(rowsF 23 (.pr si (.pr si si)) z y++([]:List Fact))):=hC
 refine lp _ (pu_move e11)<|lp (.slice A168 (((List.replicate (d.length:Int).toNat (Value.slice none 0 0))).length) c169) (pu_assign rfl)<|lp (iv 0) (pu_assign rfl)<|ln (hK349 _ _ ?_)
 replace hC:=hC.selT [0] (by decide)
 replace hC:=Cx.freezeR hC N
 replace hC:Cx _ O0 w _ ([.ro (.sl (.sl (.pr si (.pr si si)))) [.slice A168 (((List.replicate (d.length:Int).toNat (Value.slice none 0 0))).length) c169] y]++([]:List Fact)):=hC
 obtain rfl:=os hb
 refine Wc.ret (hKR _ _ ?_)
 refine ⟨_,res2 results33 (tV (.slice A168 (((List.replicate (d.length:Int).toNat (Value.slice none 0 0))).length) c169) rfl) (tV (iv 0) rfl),_,rfl,A168,((List.replicate (d.length:Int).toNat (Value.slice none 0 0))).length,c169,rfl,(show I64 0 from by unfold I64; omega),hC.sE [0]⟩
 refine mixPE_chain ?_
 refine mixE.op hM (hC.alloc (cs:=[iv 0,iv 0,iv 0]) zeroValue23 rfl) ?_
 rintro _ w351 ⟨g350,rfl,hC,hF,hG⟩
 have hUf352:g350<w54.heap.size→g350∈blocks (([]:List Fact)++([]:List Fact)):=fun h=>absurd (Nat.lt_of_lt_of_le h (Nat.le_trans hM.size hG)) (Nat.lt_irrefl _)
 clear hG
 replace hM:=hM.none hF
 replace hD:=hM.wide (H:=([]:List Fact))
 refine ⟨hM,?_⟩
 refine mixE.nil ?_
 refine mixPE_chain ?_
 replace hC:Cx _ O0 w _ ([.box g350 23 [iv 0,iv 0,iv 0],.ro (.sl (.pr si (.pr si si))) [.slice A103 x96.length c104] x96,.ro (.sl (.pr si (.pr si si))) [.slice (some ad112) x82.length c90] x82,.ro (.sl (.pr si (.pr si si))) [.slice (some ad69) x55.length c63] x55,.ro (.sl (.pr si (.pr si si))) [.slice A43 x37.length c44] x37,.own 105 (.pr (.pr si (.pr si si)) (.pr (.pr si (.pr si si)) (.pr si si))) (.slice A13 y11.length c15) y11,.ro (.sl (.sl (.pr si (.pr si si)))) [.slice (some ad39) d.length C] d]++([]:List Fact)):=hC
 refine mixE.op hM (hC.alloc (cs:=[iv 0,iv 0,iv 0]) zeroValue23 rfl) ?_
 rintro _ w354 ⟨g353,rfl,hC,hF,hG⟩
 have hUf355:g353<w54.heap.size→g353∈blocks (([]:List Fact)++([]:List Fact)):=fun h=>absurd (Nat.lt_of_lt_of_le h (Nat.le_trans hM.size hG)) (Nat.lt_irrefl _)
 clear hG
 replace hM:=hM.none hF
 replace hD:=hM.wide (H:=([]:List Fact))
 refine ⟨hM,?_⟩
 replace hC:Cx _ O0 w _ ([.box g353 23 [iv 0,iv 0,iv 0],_,_,_,_,_,_,_]++([]:List Fact)):=hC
 refine mixE.sk hD (hC.seta (i:=0) (ds:=[iv x67.1,iv x67.2.1,iv x67.2.2]) rfl type23 rfl rfl rfl rfl rfl) ?_
 rintro w356 ⟨hC,hF⟩
 replace hD:=hD.besideG hUf355 hF
 clear hF
 refine ⟨hD,?_⟩
 replace hC:Cx _ O0 w _ ([.box g353 23 [iv x67.1,iv x67.2.1,iv x67.2.2],_,_,_,_,_,_,_]++([]:List Fact)):=hC
 refine mixE.sk hD (hC.seta (i:=1) (ds:=[iv x110.1,iv x110.2.1,iv x110.2.2]) rfl type23 rfl rfl rfl rfl rfl) ?_
 rintro w357 ⟨hC,hF⟩
 replace hD:=hD.besideG hUf352 hF
 clear hF
 refine ⟨hD,?_⟩
 refine mixE.nil ?_
 clear hS hM
 clear hD
 refine hK52 _ _<|Wc.fresh fun E358 hE=>?_
 have e0:=cg hE 0 e0
 have e1:=cg hE 1 e1
 have e2:=cg hE 2 e2
 have e6:=cg hE 6 e6
 have e7:=cg hE 7 e7
 have e8:E358 8=pg g353:=cg hE 8 rfl
 have e9:E358 9=pg g350:=cg hE 9 rfl
 clear hE
 refine Wc.seq fun _ hK359=>rg ?_
 replace hC:Cx _ O0 w _ ([_,.box g350 23 [iv x110.1,iv x110.2.1,iv x110.2.2],_,_,_,_,_,_]++([]:List Fact)):=hC
 refine lp (.pointer (some ((⟨g353,0,none⟩:Addr).add 0))) (pu_field (sz:=1) underlying23 rfl sizeOf3 (by decide) rfl e8)<|lv (iv x67.1) (ld_fld (hC.bx (i:=0) rfl) isAgg3 rfl rfl)<|lp (.pointer (some ((⟨g350,0,none⟩:Addr).add 0))) (pu_field (sz:=1) underlying23 rfl sizeOf3 (by decide) rfl e9)<|lv (iv x110.1) (ld_fld (hC.bx (i:=1) rfl) isAgg3 rfl rfl) ?_
 obtain ⟨z135,h361,hb⟩:=bd hb
 refine lp (iv z135) (pu_addc (a:=x67.1) (b:=x110.1) rfl rfl h361)<|lp (.pointer (some ((⟨g353,0,none⟩:Addr).add 1))) (pu_field (sz:=1) underlying23 rfl sizeOf3 (by decide) rfl e8)<|lv (iv x67.2.1) (ld_fld (hC.bx (i:=0) rfl) isAgg3 rfl rfl)<|lp (.pointer (some ((⟨g350,0,none⟩:Addr).add 1))) (pu_field (sz:=1) underlying23 rfl sizeOf3 (by decide) rfl e9)<|lv (iv x110.2.1) (ld_fld (hC.bx (i:=1) rfl) isAgg3 rfl rfl) ?_
 obtain ⟨z137,h363,hb⟩:=bd hb
 refine lp (iv z137) (pu_addc (a:=x67.2.1) (b:=x110.2.1) rfl rfl h363)<|lp (.pointer (some ((⟨g353,0,none⟩:Addr).add 2))) (pu_field (sz:=1) underlying23 rfl sizeOf3 (by decide) rfl e8)<|lv (iv x67.2.2) (ld_fld (hC.bx (i:=0) rfl) isAgg3 rfl rfl)<|lp (.pointer (some ((⟨g350,0,none⟩:Addr).add 2))) (pu_field (sz:=1) underlying23 rfl sizeOf3 (by decide) rfl e9)<|lv (iv x110.2.2) (ld_fld (hC.bx (i:=1) rfl) isAgg3 rfl rfl) ?_
 obtain ⟨z139,h365,hb⟩:=bd hb
 refine lp (iv z139) (pu_addc (a:=x67.2.2) (b:=x110.2.2) rfl rfl h365)<|lp (.agg #[iv z135,iv z137,iv z139]) (pu_builds (places:=[(0,1),(1,1),(2,1)]) (pv:=[(0,iv z135),(1,iv z137),(2,iv z139)]) type23 underlying23 rfl (mp_cons type3 (mp_cons type3 (mp_cons type3 mp_nil rfl rfl) rfl rfl) rfl rfl) rfl (by simp [Instr.fill,Value.cells]))<|lex.op (hC.alloc (cs:=[iv 0,iv 0,iv 0]) zeroValue23 rfl) ?_
 rintro _ w367 ⟨g366,rfl,hC,hF,-⟩
 replace hC:Cx _ O0 w _ ([.box g366 23 [iv 0,iv 0,iv 0],_,_,_,_,_,_,_,_]++([]:List Fact)):=hC
 refine lex.sk (hC.seta (i:=0) (ds:=[iv z135,iv z137,iv z139]) rfl type23 rfl rfl rfl rfl rfl) ?_
 rintro w369 ⟨hC,hF⟩
 refine ln (hK359 _ _ ?_)
 refine Wc.fresh fun E370 hE=>?_
 have e0:=cg hE 0 e0
 have e1:=cg hE 1 e1
 have e2:=cg hE 2 e2
 have e6:=cg hE 6 e6
 have e7:=cg hE 7 e7
 have e10:E370 10=pg g366:=cg hE 10 rfl
 clear hE
 refine Wc.seq fun _ hK371=>?_
 refine Wc.seq fun _ hK372=>rg ?_
 replace hC:Cx _ O0 w _ ([.box g366 23 [iv z135,iv z137,iv z139],_,_,_,_,_,_,_,_]++([]:List Fact)):=hC
 refine lp (.pointer (some ((⟨g366,0,none⟩:Addr).add 0))) (pu_field (sz:=1) underlying23 rfl sizeOf3 (by decide) rfl e10)<|lv (iv z135) (ld_fld (hC.bx (i:=0) rfl) isAgg3 rfl rfl) ?_
 obtain ⟨u148,h374,hb⟩:=bd hb
 refine lp (iv (Int.tmod z135 2)) (pu_remc (a:=z135) (b:=2) rfl rfl h374)<|lp (.bool (!(decide ((Int.tmod z135 2)=0)))) (pu_neq (k:=.i64) (a:=(Int.tmod z135 2)) (b:=0) rfl rfl)<|lp (.bool (!(decide ((Int.tmod z135 2)=0)))) (pu_move rfl) ?_
 rcases bS (!(decide ((Int.tmod z135 2)=0))) with hq375 | hq375
 replace hb:=tt hq375 hb
 refine gs rfl rfl (!(decide ((Int.tmod z135 2)=0))) rfl hq375<|gs rfl rfl (!(decide ((Int.tmod z135 2)=0))) rfl hq375<|gs rfl rfl (!(decide ((Int.tmod z135 2)=0))) rfl hq375<|gs rfl rfl (!(decide ((Int.tmod z135 2)=0))) rfl hq375<|lp (.bool true) (pu_pickT (q:=(!(decide ((Int.tmod z135 2)=0)))) rfl hq375 rfl)<|lp (.bool true) (pu_move rfl)<|gs rfl rfl true rfl rfl<|gs rfl rfl true rfl rfl<|gs rfl rfl true rfl rfl<|gs rfl rfl true rfl rfl<|lp (.bool true) (pu_pickT (q:=true) rfl rfl rfl)<|ln (hK372 _ _ ?_)
 refine Wc.cond_true (rfl) ?_
 refine Wc.seq fun _ hK376=>rg<|lp (.slice none 0 0) (pu_assign rfl)<|lp (iv 10) (pu_assign rfl)<|ln (hK376 _ _ ?_)
 replace hC:=hC.ro (show Rep _ _ (.sl (.sl (.pr si (.pr si si)))) [.slice none 0 0] [] from ⟨none,0,rfl,Nat.le_refl _,by omega,fun h=>absurd h (by simp)⟩)
 replace hC:Cx _ O0 w _ ([.ro (.sl (.sl (.pr si (.pr si si)))) [.slice none 0 0] ([]:List (List (Int×(Int×Int)))),_,_,_,_,_,_,_,_,_]++([]:List Fact)):=hC
 obtain rfl:=os hb
 refine Wc.ret (hKR _ _ ?_)
 refine ⟨_,res2 results33 (tV (.slice none 0 0) rfl) (tV (iv 10) rfl),_,rfl,none,0,0,rfl,(show I64 10 from by unfold I64; omega),hC.sE [0]⟩
 replace hb:=tf hq375 hb
 refine gp rfl rfl (!(decide ((Int.tmod z135 2)=0))) rfl hq375 (.pointer (some ((⟨g366,0,none⟩:Addr).add 1))) (pu_field (sz:=1) underlying23 rfl sizeOf3 (by decide) rfl e10)<|gv rfl rfl (!(decide ((Int.tmod z135 2)=0))) rfl hq375 (iv z137) (ld_fld (hC.bx (i:=0) rfl) isAgg3 rfl rfl) ?_
 obtain ⟨u153,h379,hb⟩:=bd hb
 refine gp rfl rfl (!(decide ((Int.tmod z135 2)=0))) rfl hq375 (iv (Int.tmod z137 2)) (pu_remc (a:=z137) (b:=2) rfl rfl h379)<|gp rfl rfl (!(decide ((Int.tmod z135 2)=0))) rfl hq375 (.bool (!(decide ((Int.tmod z137 2)=0)))) (pu_neq (k:=.i64) (a:=(Int.tmod z137 2)) (b:=0) rfl rfl)<|lp (.bool (!(decide ((Int.tmod z137 2)=0)))) (pu_pickF (q:=(!(decide ((Int.tmod z135 2)=0)))) rfl hq375 rfl)<|lp (.bool (!(decide ((Int.tmod z137 2)=0)))) (pu_move rfl) ?_
 rcases bS (!(decide ((Int.tmod z137 2)=0))) with hq380 | hq380
 replace hb:=tt hq380 hb
 refine gs rfl rfl (!(decide ((Int.tmod z137 2)=0))) rfl hq380<|gs rfl rfl (!(decide ((Int.tmod z137 2)=0))) rfl hq380<|gs rfl rfl (!(decide ((Int.tmod z137 2)=0))) rfl hq380<|gs rfl rfl (!(decide ((Int.tmod z137 2)=0))) rfl hq380<|lp (.bool true) (pu_pickT (q:=(!(decide ((Int.tmod z137 2)=0)))) rfl hq380 rfl)<|ln (hK372 _ _ ?_)
 refine Wc.fresh fun E381 hE=>?_
 have e0:=cg hE 0 e0
 have e1:=cg hE 1 e1
 have e2:=cg hE 2 e2
 have e6:=cg hE 6 e6
 have e7:=cg hE 7 e7
 have e10:=cg hE 10 e10
 have e98:E381 98=.bool true:=cg hE 98 rfl
 clear hE
 refine Wc.cond_true (e98) ?_
 refine Wc.seq fun _ hK382=>rg<|lp (.slice none 0 0) (pu_assign rfl)<|lp (iv 10) (pu_assign rfl)<|ln (hK382 _ _ ?_)
 replace hC:=hC.ro (show Rep _ _ (.sl (.sl (.pr si (.pr si si)))) [.slice none 0 0] [] from ⟨none,0,rfl,Nat.le_refl _,by omega,fun h=>absurd h (by simp)⟩)
 replace hC:Cx _ O0 w _ ([_,_,_,_,_,_,_,_,_,_]++([]:List Fact)):=hC
 obtain rfl:=os hb
 refine Wc.ret (hKR _ _ ?_)
 refine ⟨_,res2 results33 (tV (.slice none 0 0) rfl) (tV (iv 10) rfl),_,rfl,none,0,0,rfl,(show I64 10 from by unfold I64; omega),hC.sE [0]⟩
 replace hb:=tf hq380 hb
 refine gp rfl rfl (!(decide ((Int.tmod z137 2)=0))) rfl hq380 (.pointer (some ((⟨g366,0,none⟩:Addr).add 2))) (pu_field (sz:=1) underlying23 rfl sizeOf3 (by decide) rfl e10)<|gv rfl rfl (!(decide ((Int.tmod z137 2)=0))) rfl hq380 (iv z139) (ld_fld (hC.bx (i:=0) rfl) isAgg3 rfl rfl) ?_
 obtain ⟨u159,h385,hb⟩:=bd hb
 refine gp rfl rfl (!(decide ((Int.tmod z137 2)=0))) rfl hq380 (iv (Int.tmod z139 2)) (pu_remc (a:=z139) (b:=2) rfl rfl h385)<|gp rfl rfl (!(decide ((Int.tmod z137 2)=0))) rfl hq380 (.bool (!(decide ((Int.tmod z139 2)=0)))) (pu_neq (k:=.i64) (a:=(Int.tmod z139 2)) (b:=0) rfl rfl)<|lp (.bool (!(decide ((Int.tmod z139 2)=0)))) (pu_pickF (q:=(!(decide ((Int.tmod z137 2)=0)))) rfl hq380 rfl)<|ln (hK372 _ _ ?_)
 refine Wc.fresh fun E386 hE=>?_
 have e0:=cg hE 0 e0
 have e1:=cg hE 1 e1
 have e2:=cg hE 2 e2
 have e6:=cg hE 6 e6
 have e7:=cg hE 7 e7
 have e10:=cg hE 10 e10
 have e98:E386 98=.bool (!(decide ((Int.tmod z139 2)=0))):=cg hE 98 rfl
 clear hE
 refine Wc.cond (t:=(!(decide ((Int.tmod z139 2)=0)))) (e98) (fun hq387=>?_) (fun hq387=>?_)
 replace hb:=tt hq387 hb
 refine Wc.seq fun _ hK388=>rg<|lp (.slice none 0 0) (pu_assign rfl)<|lp (iv 10) (pu_assign rfl)<|ln (hK388 _ _ ?_)
 replace hC:=hC.ro (show Rep _ _ (.sl (.sl (.pr si (.pr si si)))) [.slice none 0 0] [] from ⟨none,0,rfl,Nat.le_refl _,by omega,fun h=>absurd h (by simp)⟩)
 replace hC:Cx _ O0 w _ ([_,_,_,_,_,_,_,_,_,_]++([]:List Fact)):=hC
 obtain rfl:=os hb
 refine Wc.ret (hKR _ _ ?_)
 refine ⟨_,res2 results33 (tV (.slice none 0 0) rfl) (tV (iv 10) rfl),_,rfl,none,0,0,rfl,(show I64 10 from by unfold I64; omega),hC.sE [0]⟩
 replace hb:=tf hq387 hb
 refine Wc.skip (hK371 _ _ ?_)
 refine Wc.seq fun _ hK390=>rg<|lp _ (pu_move e0)<|lp (iv (d.length:Int)) (pu_len (A:=(some ad39)) (n:=d.length) (m:=C) underlying28 rfl) ?_
 obtain ⟨u166,h392,hb⟩:=bd hb
 refine lex.op (hC.make (s:=.raw) (n:=(d.length:Int)) underlying28 type43 rfl rfl rfl rfl rfl (pos_some h392).1 (pos_some h392).2 (by decide)) ?_
 rintro _ w397 ⟨A393,c394,rfl,hl395,hc396,hC,-,-⟩
 replace hC:Cx _ O0 w _ ([.own 43 .raw (.slice A393 (((List.replicate (d.length:Int).toNat (Value.slice none 0 0))).length) c394) (List.replicate (d.length:Int).toNat (Value.slice none 0 0)),_,_,_,_,_,_,_,_,_]++([]:List Fact)):=hC
 replace hC:=hC.nilRows 23 (.pr si (.pr si si)) (d.length:Int).toNat
 replace hC:Cx _ O0 w _ ([_,_,_,_,_,_,_,_,_,_]++(rowsF 23 (.pr si (.pr si si)) (List.replicate (d.length:Int).toNat (Value.slice none 0 0)) (List.replicate (d.length:Int).toNat ([]:List (Int×(Int×Int))))++([]:List Fact))):=hC
 refine lp (.slice A393 (((List.replicate (d.length:Int).toNat (Value.slice none 0 0))).length) c394) (pu_assign rfl)<|ln (hK390 _ _ ?_)
 refine Wc.seq fun _ hK399=>?_
 refine Wc.seq fun _ hK400=>rg<|lp _ (pu_move e0)<|lp (iv (d.length:Int)) (pu_len (A:=(some ad39)) (n:=d.length) (m:=C) underlying28 rfl)<|lp (iv 0) (pu_move rfl)<|ln (hK400 _ _ ?_)
 obtain ⟨o176,hl0,f176,hf176,hb⟩:=bn hb
 refine Wc.cut (fun E wv=> ∃(c:Int) (y:List (List (Int×(Int×Int)))) (B:List Value),E 6=.slice none 0 0∧E 7=iv 0∧E 11=.slice A393 (((List.replicate (d.length:Int).toNat (Value.slice none 0 0))).length) c394∧I64 c∧B.length=y.length∧Cx (fun _=>False) O0 w wv ([.own 43 .raw (.slice A393 (((List.replicate (d.length:Int).toNat (Value.slice none 0 0))).length) c394) B]++(rowsF 23 (.pr si (.pr si si)) B y++([]:List Fact)))∧f176 (c,y)=some r) (fun _ hK402=>?_) ?_
 refine Wc.block ?_
 refine Wc.loop (fun m E wv=> ∃(c:Int) (y:List (List (Int×(Int×Int)))) (B:List Value),E 1=iv o∧E 2=iv p∧E 6=.slice none 0 0∧E 7=iv 0∧E 10=pg g366∧E 11=.slice A393 (((List.replicate (d.length:Int).toNat (Value.slice none 0 0))).length) c394∧E 102=.slice (some ad39) d.length C∧E 103=iv (d.length:Int)∧E 104=iv c∧I64 c∧B.length=y.length∧Cx (fun _=>False) O0 w wv ([.box g366 23 [iv z135,iv z137,iv z139],.own 43 .raw (.slice A393 (((List.replicate (d.length:Int).toNat (Value.slice none 0 0))).length) c394) B,.ro (.sl (.sl (.pr si (.pr si si)))) [.slice (some ad39) d.length C] d]++(rowsF 23 (.pr si (.pr si si)) B y++([]:List Fact)))∧loopN m (F.polygon_Subdivide_b0 n d o p z135 z137 z139) (c,y)=some o176) n ⟨0,(List.replicate (d.length:Int).toNat ([]:List (Int×(Int×Int)))),(List.replicate (d.length:Int).toNat (Value.slice none 0 0)),e1,e2,e6,e7,e10,rfl,rfl,rfl,rfl,(show I64 0 from by unfold I64; omega),(nilRows_len (d.length:Int).toNat (s:=(.pr si (.pr si si)))),hC.selT [1,0,9] (by decide),hl0⟩ ?_
 have hbK0:=hb
 clear hb hC hl0
 rintro m404 E406 w405 ⟨c,y,B,e1,e2,e6,e7,e10,e11,e102,e103,e104,L,P,hC,hl0⟩ K403 hK403
 obtain ⟨m404',o407,rfl,hb,hl0⟩:=loopN_some hl0
 unfold F.polygon_Subdivide_b0 at hb
 refine Wc.seq fun _ hK408=>rg ?_
 replace hC:Cx _ O0 w _ ([_,.own 43 .raw (.slice A393 (((List.replicate (d.length:Int).toNat (Value.slice none 0 0))).length) c394) B,_]++(rowsF 23 (.pr si (.pr si si)) B y++([]:List Fact))):=hC
 refine lp _ (pu_lss e104 e103)<|ln (hK408 _ _ ?_)
 refine Wc.seq fun _ hK409=>?_
 refine Wc.cond (t:=(decide (c<(d.length:Int)))) (rfl) (fun hq410=>?_) (fun hq410=>?_)
 replace hb:=tt hq410 hb
 refine Wc.skip (hK409 _ _ ?_)
 refine Wc.seq fun _ hK411=>?_
 refine Wc.block<|Wc.seq fun _ hK412=>rg<|lp _ (pu_move e104) ?_
 obtain ⟨x188,h414,hb⟩:=bd hb
 obtain ⟨ad415,cs416,hA,hc417,hr418⟩:=hC.elr (i:=2) rfl (get_some h414).2
 obtain rfl:=Option.some.inj hA
 refine lp (.pointer (some (ad39.add (c.toNat*1)))) (pu_index (a:=c) underlying28 sizeOf43 e102 e104 (get_some h414).1) ?_
 have hR:=hr418
 obtain ⟨A419,c420,rfl,hl421,hc422,_⟩:=hr418
 replace hC:=hC.ro hR
 clear hR
 refine lv (.slice A419 x188.length c420) (ld_one isAgg43 rfl (hc417 0 _ rfl)) ?_
 replace hC:Cx _ O0 w _ ([.ro (.sl (.pr si (.pr si si))) [.slice A419 x188.length c420] x188,_,_,_]++(rowsF 23 (.pr si (.pr si si)) B y++([]:List Fact))):=hC
 refine lp (iv c) (pu_assign rfl)<|lp (.slice A419 x188.length c420) (pu_assign rfl)<|ln (hK412 _ _ ?_)
 refine Wc.seq fun _ hK424=>rg<|lp (.slice A419 x188.length c420) (pu_move rfl)<|lp (iv (x188.length:Int)) (pu_len (A:=A419) (n:=x188.length) (m:=c420) underlying43 rfl)<|lp (iv 0) (pu_move rfl)<|ln (hK424 _ _ ?_)
 obtain ⟨o200,hl1,hb⟩:=bd hb
 refine Wc.cut (fun E wv=> ∃(x:Int) (f:List (List (Int×(Int×Int)))) (l:List Value),E 1=iv o∧E 2=iv p∧E 6=.slice none 0 0∧E 7=iv 0∧E 10=pg g366∧E 11=.slice A393 (((List.replicate (d.length:Int).toNat (Value.slice none 0 0))).length) c394∧E 12=iv c∧E 13=.slice A419 x188.length c420∧E 102=.slice (some ad39) d.length C∧E 103=iv (d.length:Int)∧E 104=iv c∧E 105=.bool (decide (c<(d.length:Int)))∧E 109=.slice A419 x188.length c420∧E 110=iv (x188.length:Int)∧E 111=iv x∧I64 x∧l.length=f.length∧Cx (fun _=>False) O0 w wv ([.box g366 23 [iv z135,iv z137,iv z139],.own 43 .raw (.slice A393 (((List.replicate (d.length:Int).toNat (Value.slice none 0 0))).length) c394) l,.ro (.sl (.pr si (.pr si si))) [.slice A419 x188.length c420] x188,.ro (.sl (.sl (.pr si (.pr si si)))) [.slice (some ad39) d.length C] d]++(rowsF 23 (.pr si (.pr si si)) l f++([]:List Fact)))∧((chk (c+1)).bind fun z345=>some (.inl (z345,f)):Option ((Int×(List (List (Int×(Int×Int)))))⊕((Int×(List (List (Int×(Int×Int))))))))=some o407) (fun _ hK426=>?_) ?_
 refine Wc.block ?_
 refine Wc.loop (fun m E wv=> ∃(x:Int) (f:List (List (Int×(Int×Int)))) (l:List Value),E 1=iv o∧E 2=iv p∧E 6=.slice none 0 0∧E 7=iv 0∧E 10=pg g366∧E 11=.slice A393 (((List.replicate (d.length:Int).toNat (Value.slice none 0 0))).length) c394∧E 12=iv c∧E 13=.slice A419 x188.length c420∧E 102=.slice (some ad39) d.length C∧E 103=iv (d.length:Int)∧E 104=iv c∧E 105=.bool (decide (c<(d.length:Int)))∧E 109=.slice A419 x188.length c420∧E 110=iv (x188.length:Int)∧E 111=iv x∧I64 x∧l.length=f.length∧Cx (fun _=>False) O0 w wv ([.box g366 23 [iv z135,iv z137,iv z139],.own 43 .raw (.slice A393 (((List.replicate (d.length:Int).toNat (Value.slice none 0 0))).length) c394) l,.ro (.sl (.pr si (.pr si si))) [.slice A419 x188.length c420] x188,.ro (.sl (.sl (.pr si (.pr si si)))) [.slice (some ad39) d.length C] d]++(rowsF 23 (.pr si (.pr si si)) l f++([]:List Fact)))∧loopN m (F.polygon_Subdivide_b1 n o p z135 z137 z139 c x188) (x,f)=some o200) n ⟨0,y,B,e1,e2,e6,e7,e10,e11,rfl,rfl,e102,e103,e104,rfl,rfl,rfl,rfl,(show I64 0 from by unfold I64; omega),P,hC.selT [1,2,0,3] (by decide),hl1⟩ ?_
 have hbK1:=hb
 clear hb hC hl1
 rintro m428 E430 w429 ⟨x,f,l,e1,e2,e6,e7,e10,e11,e12,e13,e102,e103,e104,e105,e109,e110,e111,M,G,hC,hl1⟩ K427 hK427
 obtain ⟨m428',o431,rfl,hb,hl1⟩:=loopN_some hl1
 unfold F.polygon_Subdivide_b1 at hb
 refine Wc.seq fun _ hK432=>rg ?_
 replace hC:Cx _ O0 w _ ([_,.own 43 .raw (.slice A393 (((List.replicate (d.length:Int).toNat (Value.slice none 0 0))).length) c394) l,_,_]++(rowsF 23 (.pr si (.pr si si)) l f++([]:List Fact))):=hC
 refine lp _ (pu_lss e111 e110)<|ln (hK432 _ _ ?_)
 refine Wc.seq fun _ hK433=>?_
 refine Wc.cond (t:=(decide (x<(x188.length:Int)))) (rfl) (fun hq434=>?_) (fun hq434=>?_)
 replace hb:=tt hq434 hb
 refine Wc.skip (hK433 _ _ ?_)
 refine Wc.seq fun _ hK435=>?_
 refine Wc.block<|Wc.seq fun _ hK436=>rg<|lp _ (pu_move e111) ?_
 obtain ⟨x212,h438,hb⟩:=bd hb
 obtain ⟨ad439,cs440,hA,hc441,hr442⟩:=hC.elr (i:=2) rfl (get_some h438).2
 subst hA
 refine lp (.pointer (some (ad439.add (x.toNat*3)))) (pu_index (a:=x) underlying43 sizeOf23 e109 e111 (get_some h438).1) ?_
 replace hC:Cx _ O0 w _ ([_,_,.ro (.sl (.pr si (.pr si si))) [.slice (some ad439) x188.length c420] x188,_]++(rowsF 23 (.pr si (.pr si si)) l f++([]:List Fact))):=hC
 obtain ⟨k443,k444,rfl,hr445,hr446⟩:=hr442
 obtain ⟨rfl,hr445⟩:=hr445
 obtain ⟨k447,k448,rfl,hr449,hr450⟩:=hr446
 obtain ⟨rfl,hr449⟩:=hr449
 obtain ⟨rfl,hr450⟩:=hr450
 refine lv (.agg #[iv x212.1,iv x212.2.1,iv x212.2.2]) (ld_agg isAgg23 sizeOf23 rfl rfl hc441)<|lex.op (hC.alloc (cs:=[iv 0,iv 0,iv 0]) zeroValue23 rfl) ?_
 rintro _ w452 ⟨g451,rfl,hC,hF,-⟩
 replace hC:Cx _ O0 w _ ([.box g451 23 [iv 0,iv 0,iv 0],_,_,_,_]++(rowsF 23 (.pr si (.pr si si)) l f++([]:List Fact))):=hC
 refine lp (iv x) (pu_assign rfl)<|lex.sk (hC.seta (i:=0) (ds:=[iv x212.1,iv x212.2.1,iv x212.2.2]) rfl type23 rfl rfl rfl rfl rfl) ?_
 rintro w454 ⟨hC,hF⟩
 refine ln (hK436 _ _ ?_)
 refine Wc.seq fun _ hK455=>?_
 replace hC:Cx _ O0 w _ ([.box g451 23 [iv x212.1,iv x212.2.1,iv x212.2.2],_,_,_,_]++(rowsF 23 (.pr si (.pr si si)) l f++([]:List Fact))):=hC
 obtain ⟨x231,h457,hb⟩:=bd hb
 obtain ⟨v458,hv459,-⟩:=rowsF_get (e:=23) (s:=(.pr si (.pr si si))) G (get_some h457).2
 replace hC:=Cx.takeRow hC hv459 (get_some h457).2
 obtain ⟨A460,c461,hvf464,hl462,hc463⟩:=(hC.ow (i:=0) rfl).form
 subst hvf464
 replace hC:Cx _ O0 w _ ([.own 23 (.pr si (.pr si si)) (.slice A460 x231.length c461) x231,_,_,_,_,_]++((rowsF 23 (.pr si (.pr si si)) l f).eraseIdx c.toNat++([]:List Fact))):=hC
 refine Wc.regionMix [122] (frm [122] [.own 23 (.pr si (.pr si si)) (.slice A460 x231.length c461) x231] [.own 43 .raw (.slice A393 (((List.replicate (d.length:Int).toNat (Value.slice none 0 0))).length) c394) l]) (fun _=>rfl) mixed (by decide+kernel) (by decide+kernel) fun w467 hw466=>?_
 replace hC:=hC.step (Fr.of_drew hw466)
 have hM:=Fr.refl (fun k=>k∈blocks [.own 23 (.pr si (.pr si si)) (.slice A460 x231.length c461) x231]) w467
 clear hw466
 have hS:=hC
 have hBf465:Beside [.own 23 (.pr si (.pr si si)) (.slice A460 x231.length c461) x231] w467 (.slice A460 x231.length c461):=Beside.of (i:=0) rfl
 have hD:Fr (fun k=>k∈blocks ([.own 23 (.pr si (.pr si si)) (.slice A460 x231.length c461) x231]++[.own 43 .raw (.slice A393 (((List.replicate (d.length:Int).toNat (Value.slice none 0 0))).length) c394) l])) w467 w467:=hM.wide
 have hUf465:Beside ([.own 23 (.pr si (.pr si si)) (.slice A460 x231.length c461) x231]++[.own 43 .raw (.slice A393 (((List.replicate (d.length:Int).toNat (Value.slice none 0 0))).length) c394) l]) w467 (.slice A460 x231.length c461):=Beside.of (i:=0) rfl
 have hUf398:Beside ([.own 23 (.pr si (.pr si si)) (.slice A460 x231.length c461) x231]++[.own 43 .raw (.slice A393 (((List.replicate (d.length:Int).toNat (Value.slice none 0 0))).length) c394) l]) w467 (.slice A393 (((List.replicate (d.length:Int).toNat (Value.slice none 0 0))).length) c394):=Beside.of (i:=1) rfl
 replace hC:Cx _ O0 w _ ([_,_,_,_,_,_]++((rowsF 23 (.pr si (.pr si si)) l f).eraseIdx c.toNat++([]:List Fact))):=hC
 refine mp (.slice A393 (((List.replicate (d.length:Int).toNat (Value.slice none 0 0))).length) c394) (pu_move e11)<|mp (iv c) (pu_move e12)<|mp (.slice A393 (((List.replicate (d.length:Int).toNat (Value.slice none 0 0))).length) c394) (pu_move e11)<|mp (iv c) (pu_move e12) ?_
 obtain ⟨x243,h469,hb⟩:=bd hb
 obtain ⟨v474,hv475,-⟩:=rowsF_get (e:=23) (s:=(.pr si (.pr si si))) G (get_some h469).2
 obtain ⟨ad470,cs471,hA,ho476,hc472,hr473⟩:=hS.elo2 (i:=3) rfl hv475 [0] (by decide)
 subst hA
 refine mp (.pointer (some (ad470.add (c.toNat*1)))) (pu_index (a:=c) underlying28 sizeOf43 rfl rfl (by rw [(hC.ow (i:=3) rfl).sl_len.1,G]; exact (get_some h469).1)) ?_
 replace hC:Cx _ O0 w _ ([_,_,_,.own 43 .raw (.slice (some ad470) (((List.replicate (d.length:Int).toNat (Value.slice none 0 0))).length) c394) l,_,_]++((rowsF 23 (.pr si (.pr si si)) l f).eraseIdx c.toNat++([]:List Fact))):=hC
 obtain rfl:=Option.some.inj (hv475.symm.trans hv459)
 obtain ⟨rfl,-⟩:=hr473
 refine mixE.load hM (v:=.slice A460 x231.length c461) (fun _ hF=>ld_one isAgg43 rfl (hF.cell (hc472 0 _ rfl) (off1 ho476)))<|mixE.steady hD (v:=.agg #[iv x212.1,iv x212.2.1,iv x212.2.2]) (fun _ hF=>ld_blk (hS.bx2 (i:=1) rfl [0,3] (by decide) hF) isAgg23 sizeOf23 rfl)<|mixE.op hM (hC.lit (s:=(.pr si (.pr si si))) (vs:=[.agg #[iv x212.1,iv x212.2.1,iv x212.2.2]]) (xs:=[(x212.1,(x212.2.1,x212.2.2))]) underlying43 type23 rfl rfl (nb rfl) rfl rfl (by simp [Value.cells,Sh.n]) rfl (show Elems _ _ (.pr si (.pr si si)) ([iv x212.1,iv x212.2.1,iv x212.2.2]++([])) ([(x212.1,(x212.2.1,x212.2.2))]:List (Int×(Int×Int))) from Elems.cons (⟨[iv x212.1],[iv x212.2.1,iv x212.2.2],rfl,⟨rfl,I64.wr (wrap_I64 hr445)⟩,⟨[iv x212.2.1],[iv x212.2.2],rfl,⟨rfl,I64.wr (wrap_I64 hr449)⟩,⟨rfl,I64.wr (wrap_I64 hr450)⟩⟩⟩) (Elems.nil _ _ _))) ?_
 rintro _ w481 ⟨A477,c478,rfl,hl479,hc480,hC,hF,hN⟩
 have hBf482:=Beside.new hM hN
 have hUf482:=Beside.new (hM.wide (H:=[.own 43 .raw (.slice (some ad470) (((List.replicate (d.length:Int).toNat (Value.slice none 0 0))).length) c394) l])) hN
 replace hM:=hM.none hF
 replace hD:=hM.wide (H:=[.own 43 .raw (.slice (some ad470) (((List.replicate (d.length:Int).toNat (Value.slice none 0 0))).length) c394) l])
 refine ⟨hM,?_⟩
 clear hF hN
 replace hC:Cx _ O0 w _ ([.own 23 (.pr si (.pr si si)) (.slice A477 ((([(x212.1,(x212.2.1,x212.2.2))]:List (Int×(Int×Int)))).length) c478) ([(x212.1,(x212.2.1,x212.2.2))]:List (Int×(Int×Int))),_,_,_,_,_,_]++((rowsF 23 (.pr si (.pr si si)) l f).eraseIdx c.toNat++([]:List Fact))):=hC
 obtain ⟨u258,h484,hb⟩:=bd hb
 refine mixE.op hM (hC.app (i:=1) (s:=(.pr si (.pr si si))) (xs:=x231) (ys:=([(x212.1,(x212.2.1,x212.2.2))]:List (Int×(Int×Int)))) (m:=((([(x212.1,(x212.2.1,x212.2.2))]:List (Int×(Int×Int)))).length)) rfl underlying43 underlying43 type23 rfl rfl rfl (hC.srco (i:=0) rfl) rfl rfl (by have:=lim_some h484; simp at this⊢ <;>omega) (by decide)) ?_
 rintro _ w489 ⟨A485,c486,rfl,hl487,hc488,hC,hF,hN⟩
 have hB:=hBf465
 replace hBf465:=hB.app hM hN
 replace hM:=hM.beside hB hF
 clear hB
 replace hD:=hM.wide (H:=[.own 43 .raw (.slice (some ad470) (((List.replicate (d.length:Int).toNat (Value.slice none 0 0))).length) c394) l])
 refine ⟨hM,?_⟩
 clear hF hN
 replace hC:Cx _ O0 w _ ([_,.own 23 (.pr si (.pr si si)) (.slice A485 ((x231++([(x212.1,(x212.2.1,x212.2.2))]:List (Int×(Int×Int)))).length) c486) (x231++([(x212.1,(x212.2.1,x212.2.2))]:List (Int×(Int×Int)))),_,_,_,_,_]++((rowsF 23 (.pr si (.pr si si)) l f).eraseIdx c.toNat++([]:List Fact))):=hC
 obtain ⟨x265,h491,hb⟩:=bd hb
 obtain ⟨v496,hv497,-⟩:=rowsF_get (e:=23) (s:=(.pr si (.pr si si))) G (get_some h491).2
 obtain ⟨ad492,cs493,hA,ho498,hc494,hr495⟩:=hS.elo2 (i:=3) rfl hv497 [0] (by decide)
 obtain rfl:=Option.some.inj hA
 refine mp (.pointer (some (ad470.add (c.toNat*1)))) (pu_index (a:=c) underlying28 sizeOf43 rfl rfl (by rw [(hC.ow (i:=4) rfl).sl_len.1,G]; exact (get_some h491).1))<|mixE.sk hD (hC.put (i:=4) (s:=.raw) rfl rfl sizeOf43 (k:=c.toNat) (a:=Value.slice A485 ((x231++([(x212.1,(x212.2.1,x212.2.2))]:List (Int×(Int×Int)))).length) c486) (by rw [G]; exact (List.getElem?_eq_some_iff.1 (get_some h491).2).1) (show Rep _ _ .raw [Value.slice A485 ((x231++([(x212.1,(x212.2.1,x212.2.2))]:List (Int×(Int×Int)))).length) c486] (Value.slice A485 ((x231++([(x212.1,(x212.2.1,x212.2.2))]:List (Int×(Int×Int)))).length) c486) from ⟨rfl,rfl⟩) rfl rfl rfl) ?_
 rintro w499 ⟨hC,hF⟩
 replace hD:=hD.beside hUf398 hF
 clear hF
 refine ⟨hD,?_⟩
 replace hC:Cx _ O0 w _ ([_,_,_,_,.own 43 .raw (.slice (some ad470) (((List.replicate (d.length:Int).toNat (Value.slice none 0 0))).length) c394) (l.set c.toNat (Value.slice A485 ((x231++([(x212.1,(x212.2.1,x212.2.2))]:List (Int×(Int×Int)))).length) c486)),_,_]++((rowsF 23 (.pr si (.pr si si)) l f).eraseIdx c.toNat++([]:List Fact))):=hC
 replace hC:=hC.selT [1,0,2,3,4,5,6] (by decide)
 replace hC:=Cx.putRow hC G (List.getElem?_eq_some_iff.1 (get_some h491).2).1
 have hN500:(l.set c.toNat (Value.slice A485 ((x231++([(x212.1,(x212.2.1,x212.2.2))]:List (Int×(Int×Int)))).length) c486)).length=(f.set c.toNat (x231++([(x212.1,(x212.2.1,x212.2.2))]:List (Int×(Int×Int))))).length:=lenset G _ _ _ _
 replace hC:Cx _ O0 w _ ([_,_,_,_,_,_]++(rowsF 23 (.pr si (.pr si si)) (l.set c.toNat (Value.slice A485 ((x231++([(x212.1,(x212.2.1,x212.2.2))]:List (Int×(Int×Int)))).length) c486)) (f.set c.toNat (x231++([(x212.1,(x212.2.1,x212.2.2))]:List (Int×(Int×Int)))))++([]:List Fact))):=hC
 refine mixE.nil ?_
 clear hS hM
 clear hD
 refine hK455 _ _<|Wc.fresh fun E501 hE=>?_
 have e1:=cg hE 1 e1
 have e2:=cg hE 2 e2
 have e6:=cg hE 6 e6
 have e7:=cg hE 7 e7
 have e10:=cg hE 10 e10
 have e11:=cg hE 11 e11
 have e12:=cg hE 12 e12
 have e13:=cg hE 13 e13
 have e14:E501 14=iv x:=cg hE 14 rfl
 have e15:E501 15=pg g451:=cg hE 15 rfl
 have e102:=cg hE 102 e102
 have e103:=cg hE 103 e103
 have e104:=cg hE 104 e104
 have e105:=cg hE 105 e105
 have e109:=cg hE 109 e109
 have e110:=cg hE 110 e110
 have e111:=cg hE 111 e111
 have e112:E501 112=.bool (decide (x<(x188.length:Int))):=cg hE 112 rfl
 clear hE
 refine Wc.seqJ (fun E wv=> ∃(J:Bool),E 1=iv o∧E 2=iv p∧E 6=.slice none 0 0∧E 7=iv 0∧E 10=pg g366∧E 11=.slice (some ad470) (((List.replicate (d.length:Int).toNat (Value.slice none 0 0))).length) c394∧E 12=iv c∧E 13=.slice (some ad439) x188.length c420∧E 14=iv x∧E 15=pg g451∧E 102=.slice (some ad39) d.length C∧E 103=iv (d.length:Int)∧E 104=iv c∧E 105=.bool (decide (c<(d.length:Int)))∧E 109=.slice (some ad439) x188.length c420∧E 110=iv (x188.length:Int)∧E 111=iv x∧E 112=.bool (decide (x<(x188.length:Int)))∧E 133=.bool J∧Cx (fun _=>False) O0 w wv ([.box g366 23 [iv z135,iv z137,iv z139],.own 43 .raw (.slice (some ad470) (((List.replicate (d.length:Int).toNat (Value.slice none 0 0))).length) c394) (l.set c.toNat (Value.slice A485 ((x231++([(x212.1,(x212.2.1,x212.2.2))]:List (Int×(Int×Int)))).length) c486)),.ro (.sl (.pr si (.pr si si))) [.slice (some ad439) x188.length c420] x188,.box g451 23 [iv x212.1,iv x212.2.1,iv x212.2.2],.ro (.sl (.sl (.pr si (.pr si si)))) [.slice (some ad39) d.length C] d]++(rowsF 23 (.pr si (.pr si si)) (l.set c.toNat (Value.slice A485 ((x231++([(x212.1,(x212.2.1,x212.2.2))]:List (Int×(Int×Int)))).length) c486)) (f.set c.toNat (x231++([(x212.1,(x212.2.1,x212.2.2))]:List (Int×(Int×Int)))))++([]:List Fact)))∧F.polygon_Subdivide_j2 n z135 z137 z139 c x f x212 x231 J=some o431) (fun _ hK502=>?_) ?_
 refine rg<|lp _ (pu_move e12)<|lp _ (pu_move e1)<|lp (.bool (decide (c=o))) (pu_eql (k:=.i64) (a:=c) (b:=o) rfl rfl)<|lp (.bool (decide (c=o))) (pu_move rfl) ?_
 rcases bS (decide (c=o)) with hq503 | hq503
 replace hb:=tt hq503 hb
 refine gp rfl rfl (decide (c=o)) rfl hq503 (iv x) (pu_move e14)<|gp rfl rfl (decide (c=o)) rfl hq503 (iv p) (pu_move e2)<|gp rfl rfl (decide (c=o)) rfl hq503 (.bool (decide (x=p))) (pu_eql (k:=.i64) (a:=x) (b:=p) rfl rfl)<|lp (.bool (decide (x=p))) (pu_pickT (q:=(decide (c=o))) rfl hq503 rfl)<|ln ?_
 exact hK502 _ _ ⟨(decide (x=p)),e1,e2,e6,e7,e10,e11,e12,e13,e14,e15,e102,e103,e104,e105,e109,e110,e111,e112,rfl,hC.selT [2,3,4,1,5] (by decide),hb⟩
 replace hb:=tf hq503 hb
 refine gs rfl rfl (decide (c=o)) rfl hq503<|gs rfl rfl (decide (c=o)) rfl hq503<|gs rfl rfl (decide (c=o)) rfl hq503<|lp (.bool false) (pu_pickF (q:=(decide (c=o))) rfl hq503 rfl)<|ln ?_
 exact hK502 _ _ ⟨false,e1,e2,e6,e7,e10,e11,e12,e13,e14,e15,e102,e103,e104,e105,e109,e110,e111,e112,rfl,hC.selT [2,3,4,1,5] (by decide),hb⟩
 clear hb hC
 rintro E505 w504 ⟨J,e1,e2,e6,e7,e10,e11,e12,e13,e14,e15,e102,e103,e104,e105,e109,e110,e111,e112,e133,hC,hb⟩
 unfold F.polygon_Subdivide_j2 at hb
 refine Wc.cond (t:=J) (e133) (fun hq506=>?_) (fun hq506=>?_)
 replace hb:=tt hq506 hb
 replace hC:Cx _ O0 w _ ([_,_,_,_,_]++(rowsF 23 (.pr si (.pr si si)) (l.set c.toNat (Value.slice A485 ((x231++([(x212.1,(x212.2.1,x212.2.2))]:List (Int×(Int×Int)))).length) c486)) (f.set c.toNat (x231++([(x212.1,(x212.2.1,x212.2.2))]:List (Int×(Int×Int)))))++([]:List Fact))):=hC
 obtain ⟨x282,h508,hb⟩:=bd hb
 obtain ⟨v509,hv510,-⟩:=rowsF_get (e:=23) (s:=(.pr si (.pr si si))) hN500 (get_some h508).2
 replace hC:=Cx.takeRow hC hv510 (get_some h508).2
 obtain ⟨A511,c512,hvf515,hl513,hc514⟩:=(hC.ow (i:=0) rfl).form
 subst hvf515
 replace hC:Cx _ O0 w _ ([.own 23 (.pr si (.pr si si)) (.slice A511 x282.length c512) x282,_,_,_,_,_]++((rowsF 23 (.pr si (.pr si si)) (l.set c.toNat (Value.slice A485 ((x231++([(x212.1,(x212.2.1,x212.2.2))]:List (Int×(Int×Int)))).length) c486)) (f.set c.toNat (x231++([(x212.1,(x212.2.1,x212.2.2))]:List (Int×(Int×Int)))))).eraseIdx c.toNat++([]:List Fact))):=hC
 refine Wc.regionMix [141,144,147] (frm [141,144,147] [.own 23 (.pr si (.pr si si)) (.slice A511 x282.length c512) x282] [.own 43 .raw (.slice (some ad470) (((List.replicate (d.length:Int).toNat (Value.slice none 0 0))).length) c394) (l.set c.toNat (Value.slice A485 ((x231++([(x212.1,(x212.2.1,x212.2.2))]:List (Int×(Int×Int)))).length) c486))]) (fun _=>rfl) mixed (by decide+kernel) (by decide+kernel) fun w518 hw517=>?_
 replace hC:=hC.step (Fr.of_drew hw517)
 have hM:=Fr.refl (fun k=>k∈blocks [.own 23 (.pr si (.pr si si)) (.slice A511 x282.length c512) x282]) w518
 clear hw517
 have hS:=hC
 have hBf516:Beside [.own 23 (.pr si (.pr si si)) (.slice A511 x282.length c512) x282] w518 (.slice A511 x282.length c512):=Beside.of (i:=0) rfl
 have hD:Fr (fun k=>k∈blocks ([.own 23 (.pr si (.pr si si)) (.slice A511 x282.length c512) x282]++[.own 43 .raw (.slice (some ad470) (((List.replicate (d.length:Int).toNat (Value.slice none 0 0))).length) c394) (l.set c.toNat (Value.slice A485 ((x231++([(x212.1,(x212.2.1,x212.2.2))]:List (Int×(Int×Int)))).length) c486))])) w518 w518:=hM.wide
 have hUf516:Beside ([.own 23 (.pr si (.pr si si)) (.slice A511 x282.length c512) x282]++[.own 43 .raw (.slice (some ad470) (((List.replicate (d.length:Int).toNat (Value.slice none 0 0))).length) c394) (l.set c.toNat (Value.slice A485 ((x231++([(x212.1,(x212.2.1,x212.2.2))]:List (Int×(Int×Int)))).length) c486))]) w518 (.slice A511 x282.length c512):=Beside.of (i:=0) rfl
 have hUf398:Beside ([.own 23 (.pr si (.pr si si)) (.slice A511 x282.length c512) x282]++[.own 43 .raw (.slice (some ad470) (((List.replicate (d.length:Int).toNat (Value.slice none 0 0))).length) c394) (l.set c.toNat (Value.slice A485 ((x231++([(x212.1,(x212.2.1,x212.2.2))]:List (Int×(Int×Int)))).length) c486))]) w518 (.slice (some ad470) (((List.replicate (d.length:Int).toNat (Value.slice none 0 0))).length) c394):=Beside.of (i:=1) rfl
 replace hC:Cx _ O0 w _ ([_,_,_,_,_,_]++((rowsF 23 (.pr si (.pr si si)) (l.set c.toNat (Value.slice A485 ((x231++([(x212.1,(x212.2.1,x212.2.2))]:List (Int×(Int×Int)))).length) c486)) (f.set c.toNat (x231++([(x212.1,(x212.2.1,x212.2.2))]:List (Int×(Int×Int)))))).eraseIdx c.toNat++([]:List Fact))):=hC
 refine mp (.slice (some ad470) (((List.replicate (d.length:Int).toNat (Value.slice none 0 0))).length) c394) (pu_move e11)<|mp (iv c) (pu_move e12)<|mp (.slice (some ad470) (((List.replicate (d.length:Int).toNat (Value.slice none 0 0))).length) c394) (pu_move e11)<|mp (iv c) (pu_move e12) ?_
 obtain ⟨x294,h520,hb⟩:=bd hb
 obtain ⟨v525,hv526,-⟩:=rowsF_get (e:=23) (s:=(.pr si (.pr si si))) hN500 (get_some h520).2
 obtain ⟨ad521,cs522,hA,ho527,hc523,hr524⟩:=hS.elo2 (i:=2) rfl hv526 [0] (by decide)
 obtain rfl:=Option.some.inj hA
 refine mp (.pointer (some (ad470.add (c.toNat*1)))) (pu_index (a:=c) underlying28 sizeOf43 rfl rfl (by rw [(hC.ow (i:=2) rfl).sl_len.1,hN500]; exact (get_some h520).1)) ?_
 obtain rfl:=Option.some.inj (hv526.symm.trans hv510)
 obtain ⟨rfl,-⟩:=hr524
 refine mixE.load hM (v:=.slice A511 x282.length c512) (fun _ hF=>ld_one isAgg43 rfl (hF.cell (hc523 0 _ rfl) (off1 ho527)))<|mp (.pointer (some ((⟨g366,0,none⟩:Addr).add 0))) (pu_field (sz:=1) underlying23 rfl sizeOf3 (by decide) rfl e10)<|mixE.steady hD (v:=iv z135) (fun _ hF=>ld_fld (hS.bx2 (i:=1) rfl [0,2] (by decide) hF) isAgg3 rfl rfl) ?_
 obtain ⟨u303,h529,hb⟩:=bd hb
 obtain ⟨z305,h531,hb⟩:=bd hb
 refine mp (iv z305) (pu_quoc (a:=z135) (b:=2) rfl rfl h529 h531)<|mp (.pointer (some ((⟨g366,0,none⟩:Addr).add 1))) (pu_field (sz:=1) underlying23 rfl sizeOf3 (by decide) rfl e10)<|mixE.steady hD (v:=iv z137) (fun _ hF=>ld_fld (hS.bx2 (i:=1) rfl [0,2] (by decide) hF) isAgg3 rfl rfl) ?_
 obtain ⟨u307,h533,hb⟩:=bd hb
 obtain ⟨z309,h535,hb⟩:=bd hb
 refine mp (iv z309) (pu_quoc (a:=z137) (b:=2) rfl rfl h533 h535)<|mp (.pointer (some ((⟨g366,0,none⟩:Addr).add 2))) (pu_field (sz:=1) underlying23 rfl sizeOf3 (by decide) rfl e10)<|mixE.steady hD (v:=iv z139) (fun _ hF=>ld_fld (hS.bx2 (i:=1) rfl [0,2] (by decide) hF) isAgg3 rfl rfl) ?_
 obtain ⟨u311,h537,hb⟩:=bd hb
 obtain ⟨z313,h539,hb⟩:=bd hb
 refine mp (iv z313) (pu_quoc (a:=z139) (b:=2) rfl rfl h537 h539)<|mp (.agg #[iv z305,iv z309,iv z313]) (pu_builds (places:=[(0,1),(1,1),(2,1)]) (pv:=[(0,iv z305),(1,iv z309),(2,iv z313)]) type23 underlying23 rfl (mp_cons type3 (mp_cons type3 (mp_cons type3 mp_nil rfl rfl) rfl rfl) rfl rfl) rfl (by simp [Instr.fill,Value.cells]))<|mixE.op hM (hC.lit (s:=(.pr si (.pr si si))) (vs:=[.agg #[iv z305,iv z309,iv z313]]) (xs:=[(z305,(z309,z313))]) underlying43 type23 rfl rfl (nb rfl) rfl rfl (by simp [Value.cells,Sh.n]) rfl (show Elems _ _ (.pr si (.pr si si)) ([iv z305,iv z309,iv z313]++([])) ([(z305,(z309,z313))]:List (Int×(Int×Int))) from Elems.cons (⟨[iv z305],[iv z309,iv z313],rfl,⟨rfl,I64.wr (chk_rng h531)⟩,⟨[iv z309],[iv z313],rfl,⟨rfl,I64.wr (chk_rng h535)⟩,⟨rfl,I64.wr (chk_rng h539)⟩⟩⟩) (Elems.nil _ _ _))) ?_
 rintro _ w544 ⟨A540,c541,rfl,hl542,hc543,hC,hF,hN⟩
 have hBf545:=Beside.new hM hN
 have hUf545:=Beside.new (hM.wide (H:=[.own 43 .raw (.slice (some ad470) (((List.replicate (d.length:Int).toNat (Value.slice none 0 0))).length) c394) (l.set c.toNat (Value.slice A485 ((x231++([(x212.1,(x212.2.1,x212.2.2))]:List (Int×(Int×Int)))).length) c486))])) hN
 replace hM:=hM.none hF
 replace hD:=hM.wide (H:=[.own 43 .raw (.slice (some ad470) (((List.replicate (d.length:Int).toNat (Value.slice none 0 0))).length) c394) (l.set c.toNat (Value.slice A485 ((x231++([(x212.1,(x212.2.1,x212.2.2))]:List (Int×(Int×Int)))).length) c486))])
 refine ⟨hM,?_⟩
 clear hF hN
 replace hC:Cx _ O0 w _ ([.own 23 (.pr si (.pr si si)) (.slice A540 ((([(z305,(z309,z313))]:List (Int×(Int×Int)))).length) c541) ([(z305,(z309,z313))]:List (Int×(Int×Int))),_,_,_,_,_,_]++((rowsF 23 (.pr si (.pr si si)) (l.set c.toNat (Value.slice A485 ((x231++([(x212.1,(x212.2.1,x212.2.2))]:List (Int×(Int×Int)))).length) c486)) (f.set c.toNat (x231++([(x212.1,(x212.2.1,x212.2.2))]:List (Int×(Int×Int)))))).eraseIdx c.toNat++([]:List Fact))):=hC
 obtain ⟨u321,h547,hb⟩:=bd hb
 refine mixE.op hM (hC.app (i:=1) (s:=(.pr si (.pr si si))) (xs:=x282) (ys:=([(z305,(z309,z313))]:List (Int×(Int×Int)))) (m:=((([(z305,(z309,z313))]:List (Int×(Int×Int)))).length)) rfl underlying43 underlying43 type23 rfl rfl rfl (hC.srco (i:=0) rfl) rfl rfl (by have:=lim_some h547; simp at this⊢ <;>omega) (by decide)) ?_
 rintro _ w552 ⟨A548,c549,rfl,hl550,hc551,hC,hF,hN⟩
 have hB:=hBf516
 replace hBf516:=hB.app hM hN
 replace hM:=hM.beside hB hF
 clear hB
 replace hD:=hM.wide (H:=[.own 43 .raw (.slice (some ad470) (((List.replicate (d.length:Int).toNat (Value.slice none 0 0))).length) c394) (l.set c.toNat (Value.slice A485 ((x231++([(x212.1,(x212.2.1,x212.2.2))]:List (Int×(Int×Int)))).length) c486))])
 refine ⟨hM,?_⟩
 clear hF hN
 replace hC:Cx _ O0 w _ ([_,.own 23 (.pr si (.pr si si)) (.slice A548 ((x282++([(z305,(z309,z313))]:List (Int×(Int×Int)))).length) c549) (x282++([(z305,(z309,z313))]:List (Int×(Int×Int)))),_,_,_,_,_]++((rowsF 23 (.pr si (.pr si si)) (l.set c.toNat (Value.slice A485 ((x231++([(x212.1,(x212.2.1,x212.2.2))]:List (Int×(Int×Int)))).length) c486)) (f.set c.toNat (x231++([(x212.1,(x212.2.1,x212.2.2))]:List (Int×(Int×Int)))))).eraseIdx c.toNat++([]:List Fact))):=hC
 obtain ⟨x328,h554,hb⟩:=bd hb
 obtain ⟨v559,hv560,-⟩:=rowsF_get (e:=23) (s:=(.pr si (.pr si si))) hN500 (get_some h554).2
 obtain ⟨ad555,cs556,hA,ho561,hc557,hr558⟩:=hS.elo2 (i:=2) rfl hv560 [0] (by decide)
 obtain rfl:=Option.some.inj hA
 refine mp (.pointer (some (ad470.add (c.toNat*1)))) (pu_index (a:=c) underlying28 sizeOf43 rfl rfl (by rw [(hC.ow (i:=3) rfl).sl_len.1,hN500]; exact (get_some h554).1))<|mixE.sk hD (hC.put (i:=3) (s:=.raw) rfl rfl sizeOf43 (k:=c.toNat) (a:=Value.slice A548 ((x282++([(z305,(z309,z313))]:List (Int×(Int×Int)))).length) c549) (by rw [hN500]; exact (List.getElem?_eq_some_iff.1 (get_some h554).2).1) (show Rep _ _ .raw [Value.slice A548 ((x282++([(z305,(z309,z313))]:List (Int×(Int×Int)))).length) c549] (Value.slice A548 ((x282++([(z305,(z309,z313))]:List (Int×(Int×Int)))).length) c549) from ⟨rfl,rfl⟩) rfl rfl rfl) ?_
 rintro w562 ⟨hC,hF⟩
 replace hD:=hD.beside hUf398 hF
 clear hF
 refine ⟨hD,?_⟩
 replace hC:Cx _ O0 w _ ([_,_,_,.own 43 .raw (.slice (some ad470) (((List.replicate (d.length:Int).toNat (Value.slice none 0 0))).length) c394) ((l.set c.toNat (Value.slice A485 ((x231++([(x212.1,(x212.2.1,x212.2.2))]:List (Int×(Int×Int)))).length) c486)).set c.toNat (Value.slice A548 ((x282++([(z305,(z309,z313))]:List (Int×(Int×Int)))).length) c549)),_,_,_]++((rowsF 23 (.pr si (.pr si si)) (l.set c.toNat (Value.slice A485 ((x231++([(x212.1,(x212.2.1,x212.2.2))]:List (Int×(Int×Int)))).length) c486)) (f.set c.toNat (x231++([(x212.1,(x212.2.1,x212.2.2))]:List (Int×(Int×Int)))))).eraseIdx c.toNat++([]:List Fact))):=hC
 replace hC:=hC.selT [1,0,2,3,4,5,6] (by decide)
 replace hC:=Cx.putRow hC hN500 (List.getElem?_eq_some_iff.1 (get_some h554).2).1
 have hN563:((l.set c.toNat (Value.slice A485 ((x231++([(x212.1,(x212.2.1,x212.2.2))]:List (Int×(Int×Int)))).length) c486)).set c.toNat (Value.slice A548 ((x282++([(z305,(z309,z313))]:List (Int×(Int×Int)))).length) c549)).length=((f.set c.toNat (x231++([(x212.1,(x212.2.1,x212.2.2))]:List (Int×(Int×Int))))).set c.toNat (x282++([(z305,(z309,z313))]:List (Int×(Int×Int))))).length:=lenset hN500 _ _ _ _
 replace hC:Cx _ O0 w _ ([_,_,_,_,_,_]++(rowsF 23 (.pr si (.pr si si)) ((l.set c.toNat (Value.slice A485 ((x231++([(x212.1,(x212.2.1,x212.2.2))]:List (Int×(Int×Int)))).length) c486)).set c.toNat (Value.slice A548 ((x282++([(z305,(z309,z313))]:List (Int×(Int×Int)))).length) c549)) ((f.set c.toNat (x231++([(x212.1,(x212.2.1,x212.2.2))]:List (Int×(Int×Int))))).set c.toNat (x282++([(z305,(z309,z313))]:List (Int×(Int×Int)))))++([]:List Fact))):=hC
 refine mixE.nil ?_
 clear hS hM
 clear hD
 refine hK435 _ _<|rg ?_
 obtain ⟨z339,h565,hb⟩:=bd hb
 refine lp (iv z339) (pu_addc (a:=x) (b:=1) e111 rfl h565)<|lp (iv z339) (pu_move rfl)<|ln ?_
 obtain rfl:=os hb
 exact hK427 m428' _ _ (Nat.lt_succ_self _) ⟨z339,((f.set c.toNat (x231++([(x212.1,(x212.2.1,x212.2.2))]:List (Int×(Int×Int))))).set c.toNat (x282++([(z305,(z309,z313))]:List (Int×(Int×Int))))),((l.set c.toNat (Value.slice A485 ((x231++([(x212.1,(x212.2.1,x212.2.2))]:List (Int×(Int×Int)))).length) c486)).set c.toNat (Value.slice A548 ((x282++([(z305,(z309,z313))]:List (Int×(Int×Int)))).length) c549)),e1,e2,e6,e7,e10,e11,e12,e13,e102,e103,e104,e105,e109,e110,rfl,(chk_rng h565),hN563,hC.selT [1,2,3,5] (by decide),lN hl1⟩
 replace hb:=tf hq506 hb
 refine Wc.skip (hK435 _ _ ?_)
 refine rg ?_
 replace hC:Cx _ O0 w _ ([_,.own 43 .raw (.slice (some ad470) (((List.replicate (d.length:Int).toNat (Value.slice none 0 0))).length) c394) (l.set c.toNat (Value.slice A485 ((x231++([(x212.1,(x212.2.1,x212.2.2))]:List (Int×(Int×Int)))).length) c486)),_,_,_]++(rowsF 23 (.pr si (.pr si si)) (l.set c.toNat (Value.slice A485 ((x231++([(x212.1,(x212.2.1,x212.2.2))]:List (Int×(Int×Int)))).length) c486)) (f.set c.toNat (x231++([(x212.1,(x212.2.1,x212.2.2))]:List (Int×(Int×Int)))))++([]:List Fact))):=hC
 obtain ⟨z341,h567,hb⟩:=bd hb
 refine lp (iv z341) (pu_addc (a:=x) (b:=1) e111 rfl h567)<|lp (iv z341) (pu_move rfl)<|ln ?_
 obtain rfl:=os hb
 exact hK427 m428' _ _ (Nat.lt_succ_self _) ⟨z341,(f.set c.toNat (x231++([(x212.1,(x212.2.1,x212.2.2))]:List (Int×(Int×Int))))),(l.set c.toNat (Value.slice A485 ((x231++([(x212.1,(x212.2.1,x212.2.2))]:List (Int×(Int×Int)))).length) c486)),e1,e2,e6,e7,e10,e11,e12,e13,e102,e103,e104,e105,e109,e110,rfl,(chk_rng h567),hN500,hC.selT [0,1,2,4] (by decide),lN hl1⟩
 replace hb:=tf hq434 hb
 refine Wc.exit rfl ?_
 obtain rfl:=os hb
 obtain rfl:=(lX hl1).symm
 exact hK426 _ _ ⟨x,f,l,e1,e2,e6,e7,e10,e11,e12,e13,e102,e103,e104,e105,e109,e110,e111,M,G,hC.selT [0,1,2,3] (by decide),hbK1⟩
 clear hb hC hl1
 rintro E569 w568 ⟨x,f,l,e1,e2,e6,e7,e10,e11,e12,e13,e102,e103,e104,e105,e109,e110,e111,M,G,hC,hb⟩
 refine hK411 _ _<|rg ?_
 replace hC:Cx _ O0 w _ ([_,.own 43 .raw (.slice A393 (((List.replicate (d.length:Int).toNat (Value.slice none 0 0))).length) c394) l,.ro (.sl (.pr si (.pr si si))) [.slice A419 x188.length c420] x188,_]++(rowsF 23 (.pr si (.pr si si)) l f++([]:List Fact))):=hC
 obtain ⟨z345,h571,hb⟩:=bd hb
 refine lp (iv z345) (pu_addc (a:=c) (b:=1) e104 rfl h571)<|lp (iv z345) (pu_move rfl)<|ln ?_
 obtain rfl:=os hb
 exact hK403 m404' _ _ (Nat.lt_succ_self _) ⟨z345,f,l,e1,e2,e6,e7,e10,e11,e102,e103,rfl,(chk_rng h571),G,hC.selT [0,1,3] (by decide),lN hl0⟩
 replace hb:=tf hq410 hb
 refine Wc.exit rfl ?_
 obtain rfl:=os hb
 obtain rfl:=(lX hl0).symm
 exact hK402 _ _ ⟨c,y,B,e6,e7,e11,L,P,hC.selT [1] (by decide),hbK0⟩
 clear hb hC hl0
 rintro E573 w572 ⟨c,y,B,e6,e7,e11,L,P,hC,hb⟩
 subst hf176
 refine hK399 _ _<|Wc.seq fun _ hK574=>rg ?_
 replace hC:Cx _ O0 w _ ([.own 43 .raw (.slice A393 (((List.replicate (d.length:Int).toNat (Value.slice none 0 0))).length) c394) B]++(rowsF 23 (.pr si (.pr si si)) B y++([]:List Fact))):=hC
 refine lp _ (pu_move e11)<|lp (.slice A393 (((List.replicate (d.length:Int).toNat (Value.slice none 0 0))).length) c394) (pu_assign rfl)<|lp (iv 0) (pu_assign rfl)<|ln (hK574 _ _ ?_)
 replace hC:=hC.selT [0] (by decide)
 replace hC:=Cx.freezeR hC P
 replace hC:Cx _ O0 w _ ([.ro (.sl (.sl (.pr si (.pr si si)))) [.slice A393 (((List.replicate (d.length:Int).toNat (Value.slice none 0 0))).length) c394] y]++([]:List Fact)):=hC
 obtain rfl:=os hb
 refine Wc.ret (hKR _ _ ?_)
 refine ⟨_,res2 results33 (tV (.slice A393 (((List.replicate (d.length:Int).toNat (Value.slice none 0 0))).length) c394) rfl) (tV (iv 0) rfl),_,rfl,A393,((List.replicate (d.length:Int).toNat (Value.slice none 0 0))).length,c394,rfl,(show I64 0 from by unfold I64; omega),hC.sE [0]⟩
end Go.Proofs.Yteajmbanlohncaa
