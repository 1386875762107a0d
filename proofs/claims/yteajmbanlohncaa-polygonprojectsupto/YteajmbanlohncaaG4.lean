import Derived.Test.YteajmbanlohncaaS
import Derived.Test.YteajmbanlohncaaG2
set_option linter.unusedVariables false
set_option linter.unusedSimpArgs false
namespace Go.Proofs.Yteajmbanlohncaa
open Ev Try
set_option maxRecDepth 100000
set_option maxHeartbeats 4000000
theorem polygon_code_ok (n:Nat) {w:World} {O0:List Nat} (hO: ∀k∈O0,k<w.heap.size) {c6:Option Addr} {f1 a9:Nat} {R:List (List (Int×(Int×Int)))} (f2:Rep O0 w (.sl (.sl (.pr si (.pr si si)))) [.slice c6 f1 a9] R) {Q:Option Addr} {c8 M:Nat} {C:List ((Int×(Int×Int))×((Int×(Int×Int))×(Int×Int)))} (c9:Rep O0 w (.sl (.pr (.pr si (.pr si si)) (.pr (.pr si (.pr si si)) (.pr si si)))) [.slice Q c8 M] C) {V:Option Addr} {c3 B:Nat} {y:List (List (Int×Bool))} (c4:Rep O0 w (.sl (.sl (.pr si .bool))) [.slice V c3 B] y) {r:(List (List (Int×Bool)))×(List Int)×Int} (hb:F.polygon_code n R C y=some r):
    Calls prog 55 #[.slice c6 f1 a9,.slice Q c8 M,.slice V c3 B] w fun e w'=> ∃v,e=.returned v∧∃(A0:Option Addr) (m0 c0:Nat) (A1:Option Addr) (m1 c1:Nat),v=.agg #[.slice A0 m0 c0,.slice A1 m1 c1,iv r.2.2]∧I64 r.2.2∧Cx (fun _=>False) O0 w w' [.own 116 (.sl (.pr si .bool)) (.slice A0 m0 c0) r.1,.own 3 si (.slice A1 m1 c1) r.2.1]:=by
 unfold F.polygon_code at hb
 have hC:=Cx.start hO
 replace hC:=hC.arg rfl f2
 replace hC:=hC.arg rfl c9
 replace hC:=hC.arg rfl c4
 clear hO
 obtain ⟨rfl,f9,g0⟩:=f2.sl_len
 obtain ⟨rfl,f7,f8⟩:=c9.sl_len
 obtain ⟨rfl,f3,f4⟩:=c4.sl_len
 refine calls_of_Wc func55 rfl (by rw [ntmps55]; exact nb rfl) fun KR hKR=>?_
 refine Wc.seq fun _ hK4=>rg<|lex.op (hC.alloc (cs:=[.slice none 0 0,.slice none 0 0,iv 0]) zeroValue77 rfl) ?_
 rintro _ w6 ⟨g5,rfl,hC,hF,-⟩
 refine ln (hK4 _ _ ?_)
 refine Wc.seq fun _ hK8=>rg<|lex.op (hC.alloc (cs:=[.slice none 0 0,.slice none 0 0,iv 0]) zeroValue77 rfl) ?_
 rintro _ w10 ⟨g9,rfl,hC,hF,-⟩
 refine ln (hK8 _ _ ?_)
 refine Wc.seq fun _ hK12=>rg<|lex.op (hC.mkmap) ?_
 rintro _ w14 ⟨g13,rfl,hC,-⟩
 refine lp (.map (some g13)) (pu_assign rfl)<|ln (hK12 _ _ ?_)
 refine Wc.seq fun _ hK16=>rg<|lp (iv 0) (pu_assign rfl)<|ln (hK16 _ _ ?_)
 refine Wc.seq fun _ hK17=>?_
 refine Wc.seq fun _ hK18=>rg<|lp (.slice c6 R.length a9) (pu_move rfl)<|lp (iv (R.length:Int)) (pu_len (A:=c6) (n:=R.length) (m:=a9) underlying28 rfl)<|lp (iv 0) (pu_move rfl)<|ln (hK18 _ _ ?_)
 replace hC:=hC.nil 116 (.sl (.pr si .bool))
 replace hC:=hC.nil 3 si
 obtain ⟨o21,hl0,f21,hf21,hb⟩:=bn hb
 refine Wc.cut (fun E wv=> ∃(Z:Int) (J:Int) (g:List (List (Int×Bool))) (K:List Int) (x:Int) (b2:List ((Int×Int)×Int)) (l:Option Addr) (a3 o:Nat) (N:Option Addr) (a4 P:Nat),E 6=pg g5∧E 7=pg g9∧I64 Z∧I64 J∧I64 x∧Cx (fun _=>False) O0 w wv [.box g5 77 [.slice none 0 0,.slice none 0 0,iv 0],.box g9 77 [.slice l a3 o,.slice N a4 P,iv x],.own 116 (.sl (.pr si .bool)) (.slice l a3 o) g,.own 3 si (.slice N a4 P) K]∧f21 (Z,J,g,K,x,b2)=some r) (fun _ hK22=>?_) ?_
 refine Wc.block ?_
 refine Wc.loop (fun m E wv=> ∃(Z:Int) (J:Int) (g:List (List (Int×Bool))) (K:List Int) (x:Int) (b2:List ((Int×Int)×Int)) (l:Option Addr) (a3 o:Nat) (N:Option Addr) (a4 P:Nat),E 1=.slice Q C.length M∧E 2=.slice V y.length B∧E 6=pg g5∧E 7=pg g9∧E 8=.map (some g13)∧E 9=iv Z∧E 22=.slice c6 R.length a9∧E 23=iv (R.length:Int)∧E 24=iv J∧I64 Z∧I64 J∧I64 x∧Cx (fun _=>False) O0 w wv [.ro (.sl (.pr (.pr si (.pr si si)) (.pr (.pr si (.pr si si)) (.pr si si)))) [.slice Q C.length M] C,.ro (.sl (.sl (.pr si .bool))) [.slice V y.length B] y,.box g5 77 [.slice none 0 0,.slice none 0 0,iv 0],.box g9 77 [.slice l a3 o,.slice N a4 P,iv x],.own 116 (.sl (.pr si .bool)) (.slice l a3 o) g,.own 3 si (.slice N a4 P) K,.obj g13 (mobj b2),.ro (.sl (.sl (.pr si (.pr si si)))) [.slice c6 R.length a9] R]∧loopN m (F.polygon_code_b0 n R C y) (Z,J,g,K,x,b2)=some o21) n ⟨0,0,([]:List (List (Int×Bool))),([]:List Int),0,([]:List ((Int×Int)×Int)),none,0,0,none,0,0,rfl,rfl,rfl,rfl,rfl,rfl,rfl,rfl,rfl,(show I64 0 from by unfold I64; omega),(show I64 0 from by unfold I64; omega),(show I64 0 from by unfold I64; omega),hC.sE [6,5,4,3,1,0,2,7],hl0⟩ ?_
 have hbK0:=hb
 clear hb hC hl0
 rintro m24 E26 w25 ⟨Z,J,g,K,x,b2,l,a3,o,N,a4,P,e1,e2,e6,e7,e8,e9,e22,e23,e24,c7,d0,b3,hC,hl0⟩ K23 hK23
 obtain ⟨m24',o27,rfl,hb,hl0⟩:=loopN_some hl0
 unfold F.polygon_code_b0 at hb
 obtain ⟨rfl,d3,d4⟩:=(hC.ow (i:=4) rfl).sl_len
 obtain ⟨rfl,d5,d6⟩:=(hC.ow (i:=5) rfl).sl_len
 refine Wc.seq fun _ hK28=>rg<|lp _ (pu_lss e24 e23)<|ln (hK28 _ _ ?_)
 refine Wc.seq fun _ hK29=>?_
 refine Wc.cond (t:=(decide (J<(R.length:Int)))) (rfl) (fun hq30=>?_) (fun hq30=>?_)
 replace hb:=tt hq30 hb
 refine Wc.skip (hK29 _ _ ?_)
 refine Wc.seq fun _ hK31=>?_
 refine Wc.block<|Wc.seq fun _ hK32=>rg ?_
 obtain ⟨x33,h34,hb⟩:=bd hb
 obtain ⟨ad35,cs36,hA,hc37,hr38⟩:=hC.elr (i:=7) rfl (get_some h34).2
 subst hA
 refine lp (.pointer (some (ad35.add (J.toNat*1)))) (pu_index (a:=J) underlying28 sizeOf43 e22 e24 (get_some h34).1) ?_
 have hR:=hr38
 obtain ⟨A39,c40,rfl,hl41,hc42,_⟩:=hr38
 replace hC:=hC.ro hR
 clear hR
 refine lv (.slice A39 x33.length c40) (ld_one isAgg43 rfl (hc37 0 _ rfl))<|lp (.slice A39 x33.length c40) (pu_assign rfl)<|ln (hK32 _ _ ?_)
 refine Wc.seq fun _ hK44=>rg<|lp (.slice none 0 0) (pu_assign rfl)<|ln (hK44 _ _ ?_)
 refine Wc.seq fun _ hK45=>?_
 refine Wc.seq fun _ hK46=>rg<|lp _ (pu_move e9)<|lp (iv Z) (pu_assign rfl)<|ln (hK46 _ _ ?_)
 replace hC:=hC.nil 119 (.pr si .bool)
 obtain ⟨o48,hl1,hb⟩:=bd hb
 refine Wc.cut (fun E wv=> ∃(D:List (Int×Bool)) (p:Int) (G:List Int) (a0:List ((Int×Int)×Int)) (a1:Option Addr) (b4 a2:Nat) (S:Option Addr) (a5 T:Nat),E 1=.slice Q C.length M∧E 2=.slice V y.length B∧E 6=pg g5∧E 7=pg g9∧E 8=.map (some g13)∧E 9=iv Z∧E 11=.slice A39 x33.length c40∧E 12=.slice a1 b4 a2∧E 13=iv p∧E 22=.slice (some ad35) R.length a9∧E 23=iv (R.length:Int)∧E 24=iv J∧E 25=.bool (decide (J<(R.length:Int)))∧I64 p∧Cx (fun _=>False) O0 w wv [.ro (.sl (.pr (.pr si (.pr si si)) (.pr (.pr si (.pr si si)) (.pr si si)))) [.slice Q C.length M] C,.ro (.sl (.sl (.pr si .bool))) [.slice V y.length B] y,.box g5 77 [.slice none 0 0,.slice none 0 0,iv 0],.box g9 77 [.slice l g.length o,.slice S a5 T,iv x],.own 116 (.sl (.pr si .bool)) (.slice l g.length o) g,.own 3 si (.slice S a5 T) G,.obj g13 (mobj a0),.ro (.sl (.pr si (.pr si si))) [.slice A39 x33.length c40] x33,.own 119 (.pr si .bool) (.slice a1 b4 a2) D,.ro (.sl (.sl (.pr si (.pr si si)))) [.slice (some ad35) R.length a9] R]∧((chk (Z+(x33.length:Int))).bind fun z323=>cond (decide (0<(D.length:Int))) ((lim (g.length+([D]:List (List (Int×Bool))).length)).bind fun u333=>(chk (J+1)).bind fun z341=>some (.inl (z323,z341,(g++([D]:List (List (Int×Bool)))),G,x,a0))) ((chk (x+1)).bind fun z343=>(chk (J+1)).bind fun z346=>some (.inl (z323,z346,g,G,z343,a0))):Option ((Int×Int×(List (List (Int×Bool)))×(List Int)×Int×(List ((Int×Int)×Int)))⊕((Int×Int×(List (List (Int×Bool)))×(List Int)×Int×(List ((Int×Int)×Int))))))=some o27) (fun _ hK49=>?_) ?_
 refine Wc.block ?_
 refine Wc.loop (fun m E wv=> ∃(D:List (Int×Bool)) (p:Int) (G:List Int) (a0:List ((Int×Int)×Int)) (a1:Option Addr) (b4 a2:Nat) (S:Option Addr) (a5 T:Nat),E 1=.slice Q C.length M∧E 2=.slice V y.length B∧E 6=pg g5∧E 7=pg g9∧E 8=.map (some g13)∧E 9=iv Z∧E 11=.slice A39 x33.length c40∧E 12=.slice a1 b4 a2∧E 13=iv p∧E 22=.slice (some ad35) R.length a9∧E 23=iv (R.length:Int)∧E 24=iv J∧E 25=.bool (decide (J<(R.length:Int)))∧I64 p∧Cx (fun _=>False) O0 w wv [.ro (.sl (.pr (.pr si (.pr si si)) (.pr (.pr si (.pr si si)) (.pr si si)))) [.slice Q C.length M] C,.ro (.sl (.sl (.pr si .bool))) [.slice V y.length B] y,.box g5 77 [.slice none 0 0,.slice none 0 0,iv 0],.box g9 77 [.slice l g.length o,.slice S a5 T,iv x],.own 116 (.sl (.pr si .bool)) (.slice l g.length o) g,.own 3 si (.slice S a5 T) G,.obj g13 (mobj a0),.ro (.sl (.pr si (.pr si si))) [.slice A39 x33.length c40] x33,.own 119 (.pr si .bool) (.slice a1 b4 a2) D,.ro (.sl (.sl (.pr si (.pr si si)))) [.slice (some ad35) R.length a9] R]∧loopN m (F.polygon_code_b1 n C y Z x33) (D,p,G,a0)=some o48) n ⟨([]:List (Int×Bool)),Z,K,b2,none,0,0,N,K.length,P,e1,e2,e6,e7,e8,e9,rfl,rfl,rfl,e22,e23,e24,rfl,c7,hC.sE [2,3,4,5,6,7,8,1,0,9],hl1⟩ ?_
 have hbK1:=hb
 clear hb hC hl1
 rintro m51 E53 w52 ⟨D,p,G,a0,a1,b4,a2,S,a5,T,e1,e2,e6,e7,e8,e9,e11,e12,e13,e22,e23,e24,e25,d1,hC,hl1⟩ K50 hK50
 obtain ⟨m51',o54,rfl,hb,hl1⟩:=loopN_some hl1
 unfold F.polygon_code_b1 at hb
 obtain ⟨rfl,e0,e3⟩:=(hC.ow (i:=8) rfl).sl_len
 obtain ⟨rfl,d7,d8⟩:=(hC.ow (i:=5) rfl).sl_len
 refine Wc.seq fun _ hK55=>?_
 refine Wc.seq fun _ hK56=>rg<|lp _ (pu_move e13)<|lp _ (pu_move e9)<|lp _ (pu_move e11)<|lp (iv (x33.length:Int)) (pu_len (A:=A39) (n:=x33.length) (m:=c40) underlying43 rfl) ?_
 obtain ⟨z57,h58,hb⟩:=bd hb
 refine lp (iv z57) (pu_addc (a:=Z) (b:=(x33.length:Int)) rfl rfl h58)<|lp (.bool (decide (p<z57))) (pu_lss (k:=.i64) (a:=p) (b:=z57) rfl rfl)<|ln (hK56 _ _ ?_)
 refine Wc.cond (t:=(decide (p<z57))) (rfl) (fun hq59=>?_) (fun hq59=>?_)
 replace hb:=tt hq59 hb
 refine Wc.skip (hK55 _ _ ?_)
 refine Wc.seq fun _ hK60=>?_
 refine Wc.block<|Wc.seq fun _ hK61=>rg<|lp _ (pu_move e2)<|lp _ (pu_move e13) ?_
 obtain ⟨x62,h63,hb⟩:=bd hb
 obtain ⟨ad64,cs65,hA,hc66,hr67⟩:=hC.elr (i:=1) rfl (get_some h63).2
 subst hA
 refine lp (.pointer (some (ad64.add (p.toNat*1)))) (pu_index (a:=p) underlying70 sizeOf73 rfl rfl (get_some h63).1) ?_
 have hR:=hr67
 obtain ⟨A68,c69,rfl,hl70,hc71,_⟩:=hr67
 replace hC:=hC.ro hR
 clear hR
 refine lv (.slice A68 x62.length c69) (ld_one isAgg73 rfl (hc66 0 _ rfl))<|lp (iv (x62.length:Int)) (pu_len (A:=A68) (n:=x62.length) (m:=c69) underlying73 rfl)<|lp (iv 0) (pu_move rfl)<|ln (hK61 _ _ ?_)
 refine Wc.fresh fun E73 hE=>?_
 have e1:=cg hE 1 e1
 have e2:=cg hE 2 e2
 have e6:=cg hE 6 e6
 have e7:=cg hE 7 e7
 have e8:=cg hE 8 e8
 have e9:=cg hE 9 e9
 have e11:=cg hE 11 e11
 have e12:=cg hE 12 e12
 have e13:=cg hE 13 e13
 have e22:=cg hE 22 e22
 have e23:=cg hE 23 e23
 have e24:=cg hE 24 e24
 have e25:=cg hE 25 e25
 have e34:E73 34=.bool (decide (p<z57)):=cg hE 34 rfl
 have e40:E73 40=.slice A68 x62.length c69:=cg hE 40 rfl
 have e41:E73 41=iv (x62.length:Int):=cg hE 41 rfl
 have e42:E73 42=iv 0:=cg hE 42 rfl
 clear hE
 obtain ⟨o74,hl2,hb⟩:=bd hb
 refine Wc.cut (fun E wv=> ∃(U:List (Int×Bool)) (X:Int) (c:List Int) (z:List ((Int×Int)×Int)) (a6:Option Addr) (b5 a7:Nat) (d:Option Addr) (a8 f:Nat),E 1=.slice Q C.length M∧E 2=.slice (some ad64) y.length B∧E 6=pg g5∧E 7=pg g9∧E 8=.map (some g13)∧E 9=iv Z∧E 11=.slice A39 x33.length c40∧E 12=.slice a6 b5 a7∧E 13=iv p∧E 22=.slice (some ad35) R.length a9∧E 23=iv (R.length:Int)∧E 24=iv J∧E 25=.bool (decide (J<(R.length:Int)))∧E 34=.bool (decide (p<z57))∧E 40=.slice A68 x62.length c69∧E 41=iv (x62.length:Int)∧E 42=iv X∧I64 X∧Cx (fun _=>False) O0 w wv [.ro (.sl (.pr (.pr si (.pr si si)) (.pr (.pr si (.pr si si)) (.pr si si)))) [.slice Q C.length M] C,.ro (.sl (.sl (.pr si .bool))) [.slice (some ad64) y.length B] y,.box g5 77 [.slice none 0 0,.slice none 0 0,iv 0],.box g9 77 [.slice l g.length o,.slice d a8 f,iv x],.own 116 (.sl (.pr si .bool)) (.slice l g.length o) g,.own 3 si (.slice d a8 f) c,.obj g13 (mobj z),.ro (.sl (.pr si (.pr si si))) [.slice A39 x33.length c40] x33,.own 119 (.pr si .bool) (.slice a6 b5 a7) U,.ro (.sl (.sl (.pr si (.pr si si)))) [.slice (some ad35) R.length a9] R,.ro (.sl (.pr si .bool)) [.slice A68 x62.length c69] x62]∧((chk (p+1)).bind fun z318=>some (.inl (U,z318,c,z)):Option (((List (Int×Bool))×Int×(List Int)×(List ((Int×Int)×Int)))⊕(((List (Int×Bool))×Int×(List Int)×(List ((Int×Int)×Int))))))=some o54) (fun _ hK75=>?_) ?_
 refine Wc.block ?_
 refine Wc.loop (fun m E wv=> ∃(U:List (Int×Bool)) (X:Int) (c:List Int) (z:List ((Int×Int)×Int)) (a6:Option Addr) (b5 a7:Nat) (d:Option Addr) (a8 f:Nat),E 1=.slice Q C.length M∧E 2=.slice (some ad64) y.length B∧E 6=pg g5∧E 7=pg g9∧E 8=.map (some g13)∧E 9=iv Z∧E 11=.slice A39 x33.length c40∧E 12=.slice a6 b5 a7∧E 13=iv p∧E 22=.slice (some ad35) R.length a9∧E 23=iv (R.length:Int)∧E 24=iv J∧E 25=.bool (decide (J<(R.length:Int)))∧E 34=.bool (decide (p<z57))∧E 40=.slice A68 x62.length c69∧E 41=iv (x62.length:Int)∧E 42=iv X∧I64 X∧Cx (fun _=>False) O0 w wv [.ro (.sl (.pr (.pr si (.pr si si)) (.pr (.pr si (.pr si si)) (.pr si si)))) [.slice Q C.length M] C,.ro (.sl (.sl (.pr si .bool))) [.slice (some ad64) y.length B] y,.box g5 77 [.slice none 0 0,.slice none 0 0,iv 0],.box g9 77 [.slice l g.length o,.slice d a8 f,iv x],.own 116 (.sl (.pr si .bool)) (.slice l g.length o) g,.own 3 si (.slice d a8 f) c,.obj g13 (mobj z),.ro (.sl (.pr si (.pr si si))) [.slice A39 x33.length c40] x33,.own 119 (.pr si .bool) (.slice a6 b5 a7) U,.ro (.sl (.sl (.pr si (.pr si si)))) [.slice (some ad35) R.length a9] R,.ro (.sl (.pr si .bool)) [.slice A68 x62.length c69] x62]∧loopN m (F.polygon_code_b2 n C p x62) (U,X,c,z)=some o74) n ⟨D,0,G,a0,a1,D.length,a2,S,G.length,T,e1,e2,e6,e7,e8,e9,e11,e12,e13,e22,e23,e24,e25,e34,e40,e41,e42,(show I64 0 from by unfold I64; omega),hC.sE [1,2,3,4,5,6,7,8,9,10,0],hl2⟩ ?_
 have hbK2:=hb
 clear hb hC hl2
 rintro m77 E79 w78 ⟨U,X,c,z,a6,b5,a7,d,a8,f,e1,e2,e6,e7,e8,e9,e11,e12,e13,e22,e23,e24,e25,e34,e40,e41,e42,d2,hC,hl2⟩ K76 hK76
 obtain ⟨m77',o80,rfl,hb,hl2⟩:=loopN_some hl2
 unfold F.polygon_code_b2 at hb
 obtain ⟨rfl,e4,e5⟩:=(hC.ow (i:=8) rfl).sl_len
 obtain ⟨rfl,b0,b1⟩:=(hC.ow (i:=5) rfl).sl_len
 refine Wc.seq fun _ hK81=>rg<|lp _ (pu_lss e42 e41)<|ln (hK81 _ _ ?_)
 refine Wc.seq fun _ hK82=>?_
 refine Wc.cond (t:=(decide (X<(x62.length:Int)))) (rfl) (fun hq83=>?_) (fun hq83=>?_)
 replace hb:=tt hq83 hb
 refine Wc.skip (hK82 _ _ ?_)
 refine Wc.seq fun _ hK84=>?_
 refine Wc.block<|Wc.seq fun _ hK85=>rg ?_
 obtain ⟨x86,h87,hb⟩:=bd hb
 obtain ⟨ad88,cs89,hA,hc90,hr91⟩:=hC.elr (i:=10) rfl (get_some h87).2
 subst hA
 refine lp (.pointer (some (ad88.add (X.toNat*2)))) (pu_index (a:=X) underlying73 sizeOf107 e40 e42 (get_some h87).1) ?_
 obtain ⟨k92,k93,rfl,hr94,hr95⟩:=hr91
 obtain ⟨rfl,hr94⟩:=hr94
 obtain rfl:=(show _=_ from hr95)
 refine lv (.agg #[iv x86.1,.bool x86.2]) (ld_agg isAgg107 sizeOf107 rfl rfl hc90)<|lex.op (hC.alloc (cs:=[iv 0,.bool false]) zeroValue107 rfl) ?_
 rintro _ w97 ⟨g96,rfl,hC,hF,-⟩
 refine lex.sk (hC.seta (i:=0) (ds:=[iv x86.1,.bool x86.2]) rfl type107 rfl rfl rfl rfl rfl) ?_
 rintro w99 ⟨hC,hF⟩
 refine ln (hK85 _ _ ?_)
 refine Wc.seq fun _ hK100=>rg<|lp _ (pu_move e13)<|lp (.pointer (some ((⟨g96,0,none⟩:Addr).add 0))) (pu_field (sz:=1) underlying107 rfl sizeOf3 (by decide) rfl rfl)<|lv (iv x86.1) (ld_fld (hC.bx (i:=0) rfl) isAgg3 rfl rfl)<|lp (iv (min p x86.1)) (pu_min (a:=p) (b:=x86.1) rfl rfl)<|lp _ (pu_move e13)<|lp (.pointer (some ((⟨g96,0,none⟩:Addr).add 0))) (pu_field (sz:=1) underlying107 rfl sizeOf3 (by decide) rfl rfl)<|lv (iv x86.1) (ld_fld (hC.bx (i:=0) rfl) isAgg3 rfl rfl)<|lp (iv (max p x86.1)) (pu_max (a:=p) (b:=x86.1) rfl rfl)<|lp (.agg #[iv (min p x86.1),iv (max p x86.1)]) (pu_builda (pv:=[(0,iv (min p x86.1)),(1,iv (max p x86.1))]) (sz:=1) type117 underlying117 rfl type3 rfl rfl (by simp [Instr.fill,Value.cells]))<|lex.op (hC.alloc (cs:=[iv 0,iv 0]) zeroValue117 rfl) ?_
 rintro _ w102 ⟨g101,rfl,hC,hF,-⟩
 refine lex.sk (hC.seta (i:=0) (ds:=[iv (min p x86.1),iv (max p x86.1)]) rfl type117 rfl rfl rfl rfl rfl) ?_
 rintro w104 ⟨hC,hF⟩
 refine ln (hK100 _ _ ?_)
 refine Wc.fresh fun E105 hE=>?_
 have e1:=cg hE 1 e1
 have e2:=cg hE 2 e2
 have e6:=cg hE 6 e6
 have e7:=cg hE 7 e7
 have e8:=cg hE 8 e8
 have e9:=cg hE 9 e9
 have e11:=cg hE 11 e11
 have e12:=cg hE 12 e12
 have e13:=cg hE 13 e13
 have e15:E105 15=pg g96:=cg hE 15 rfl
 have e16:E105 16=pg g101:=cg hE 16 rfl
 have e22:=cg hE 22 e22
 have e23:=cg hE 23 e23
 have e24:=cg hE 24 e24
 have e25:=cg hE 25 e25
 have e34:=cg hE 34 e34
 have e40:=cg hE 40 e40
 have e41:=cg hE 41 e41
 have e42:=cg hE 42 e42
 have e43:E105 43=.bool (decide (X<(x62.length:Int))):=cg hE 43 rfl
 clear hE
 refine Wc.seq fun _ hK106=>rg<|lp _ (pu_move e8)<|lv (.agg #[iv (min p x86.1),iv (max p x86.1)]) (ld_blk (hC.bx (i:=0) rfl) isAgg117 sizeOf117 e16) ?_
 obtain ⟨z107,h108,hb⟩:=bd hb
 refine lv (.tuple #[iv z107,.bool ((mget z ((min p x86.1),(max p x86.1))).isSome)]) (by have h9:=(chk_some h108).1; first | (rw [h9]; exact lk2 (k:=((min p x86.1),(max p x86.1))) (hC.ob (i:=8) rfl) underlying115 zeroValue3 underlying117 type3 (by kernel_rfl) sizeOf3 underlying3 isAgg3 rfl rfl) | (rw [←h9]; exact lk2 (k:=((min p x86.1),(max p x86.1))) (hC.ob (i:=8) rfl) underlying115 zeroValue3 underlying117 type3 (by kernel_rfl) sizeOf3 underlying3 isAgg3 rfl rfl))<|lp (.tuple #[iv z107,.bool ((mget z ((min p x86.1),(max p x86.1))).isSome)]) (pu_move rfl)<|lp (iv z107) (pu_extract rfl rfl)<|lp (.bool ((mget z ((min p x86.1),(max p x86.1))).isSome)) (pu_extract rfl rfl)<|lp (iv z107) (pu_assign rfl)<|lp (.bool ((mget z ((min p x86.1),(max p x86.1))).isSome)) (pu_assign rfl)<|ln (hK106 _ _ ?_)
 refine Wc.seqJ (fun E wv=> ∃(Y:Int) (d9:Bool) (b6:List Int) (c5:List ((Int×Int)×Int)) (b7:Option Addr) (c2 b8:Nat),E 1=.slice Q C.length M∧E 2=.slice (some ad64) y.length B∧E 6=pg g5∧E 7=pg g9∧E 8=.map (some g13)∧E 9=iv Z∧E 11=.slice A39 x33.length c40∧E 12=.slice a6 U.length a7∧E 13=iv p∧E 15=pg g96∧E 16=pg g101∧E 17=iv Y∧E 18=.bool ((mget z ((min p x86.1),(max p x86.1))).isSome)∧E 22=.slice (some ad35) R.length a9∧E 23=iv (R.length:Int)∧E 24=iv J∧E 25=.bool (decide (J<(R.length:Int)))∧E 34=.bool (decide (p<z57))∧E 40=.slice (some ad88) x62.length c69∧E 41=iv (x62.length:Int)∧E 42=iv X∧E 43=.bool (decide (X<(x62.length:Int)))∧E 62=.bool d9∧I64 Y∧Cx (fun _=>False) O0 w wv [.ro (.sl (.pr (.pr si (.pr si si)) (.pr (.pr si (.pr si si)) (.pr si si)))) [.slice Q C.length M] C,.ro (.sl (.sl (.pr si .bool))) [.slice (some ad64) y.length B] y,.box g5 77 [.slice none 0 0,.slice none 0 0,iv 0],.box g9 77 [.slice l g.length o,.slice b7 c2 b8,iv x],.own 116 (.sl (.pr si .bool)) (.slice l g.length o) g,.own 3 si (.slice b7 c2 b8) b6,.obj g13 (mobj c5),.ro (.sl (.pr si (.pr si si))) [.slice A39 x33.length c40] x33,.own 119 (.pr si .bool) (.slice a6 U.length a7) U,.box g96 107 [iv x86.1,.bool x86.2],.box g101 117 [iv (min p x86.1),iv (max p x86.1)],.ro (.sl (.sl (.pr si (.pr si si)))) [.slice (some ad35) R.length a9] R,.ro (.sl (.pr si .bool)) [.slice (some ad88) x62.length c69] x62]∧F.polygon_code_j3 n U X x86 Y d9 b6 c5=some o80) (fun _ hK109=>?_) ?_
 refine Wc.seq fun _ hK110=>rg<|lp (.bool ((mget z ((min p x86.1),(max p x86.1))).isSome)) (pu_move rfl)<|lp (.bool (!(mget z ((min p x86.1),(max p x86.1))).isSome)) (pu_not (q:=(mget z ((min p x86.1),(max p x86.1))).isSome) rfl)<|ln (hK110 _ _ ?_)
 refine Wc.fresh fun E111 hE=>?_
 have e1:=cg hE 1 e1
 have e2:=cg hE 2 e2
 have e6:=cg hE 6 e6
 have e7:=cg hE 7 e7
 have e8:=cg hE 8 e8
 have e9:=cg hE 9 e9
 have e11:=cg hE 11 e11
 have e12:=cg hE 12 e12
 have e13:=cg hE 13 e13
 have e15:=cg hE 15 e15
 have e16:=cg hE 16 e16
 have e17:E111 17=iv z107:=cg hE 17 rfl
 have e18:E111 18=.bool ((mget z ((min p x86.1),(max p x86.1))).isSome):=cg hE 18 rfl
 have e22:=cg hE 22 e22
 have e23:=cg hE 23 e23
 have e24:=cg hE 24 e24
 have e25:=cg hE 25 e25
 have e34:=cg hE 34 e34
 have e40:=cg hE 40 e40
 have e41:=cg hE 41 e41
 have e42:=cg hE 42 e42
 have e43:=cg hE 43 e43
 have e62:E111 62=.bool (!(mget z ((min p x86.1),(max p x86.1))).isSome):=cg hE 62 rfl
 clear hE
 refine Wc.cond (t:=(!(mget z ((min p x86.1),(max p x86.1))).isSome)) (e62) (fun hq112=>?_) (fun hq112=>?_)
 replace hb:=tt hq112 hb
 refine Wc.seq fun _ hK113=>rg<|lp (.pointer (some ((⟨g9,0,none⟩:Addr).add 1))) (pu_field (sz:=1) underlying77 rfl sizeOf30 (by decide) rfl e7)<|lv (.slice d c.length f) (ld_fld (hC.bx (i:=5) rfl) isAgg30 rfl rfl)<|lp (iv (c.length:Int)) (pu_len (A:=d) (n:=c.length) (m:=f) underlying30 rfl)<|lp (iv (c.length:Int)) (pu_assign rfl)<|ln (hK113 _ _ ?_)
 refine Wc.seq fun _ hK114=>rg<|lp _ (pu_move e8)<|lv (.agg #[iv (min p x86.1),iv (max p x86.1)]) (ld_blk (hC.bx (i:=0) rfl) isAgg117 sizeOf117 e16)<|lp (iv (c.length:Int)) (pu_move rfl) ?_
 obtain ⟨u115,h116,hb⟩:=bd hb
 refine lex.sk (hC.mput (i:=8) (k:=((min p x86.1),(max p x86.1))) (v:=(c.length:Int)) rfl (nok_some h116) underlying115 underlying117 type3 (by kernel_rfl) sizeOf3 underlying3 isAgg3 rfl rfl rfl) ?_
 rintro w117 ⟨hC,-⟩
 refine ln (hK114 _ _ ?_)
 refine Wc.seq fun _ hK118=>?_
 refine Wc.regionPlan [72,75,77] (frm [72,75,77] ([]:List Fact) ([]:List Fact)) (chainP [0,1,2,3,4,5,6,7,8] (.alt (chainP [9] (chainP [10,11,12] .done)) (chainP [10] (chainP [9,11,12] .done)))) (fun _=>rfl) mixed (by decide+kernel) (by decide+kernel) fun w120 hw119=>?_
 replace hC:=hC.step (Fr.of_drew hw119)
 have hM:=Fr.refl (fun k=>k∈blocks ([]:List Fact)) w120
 clear hw119
 have hS:=hC
 have hD:Fr (fun k=>k∈blocks (([]:List Fact)++([]:List Fact))) w120 w120:=hM.wide
 refine mixPE_chain ?_
 refine mp (.slice Q C.length M) (pu_move e1)<|mp (iv p) (pu_move e13) ?_
 obtain ⟨x121,h122,hb⟩:=bd hb
 obtain ⟨ad123,cs124,hA,ho127,hc125,hr126⟩:=hS.elr2 (i:=2) rfl (get_some h122).2 []
 subst hA
 refine mp (.pointer (some (ad123.add (p.toNat*8)))) (pu_index (a:=p) underlying68 sizeOf105 rfl rfl (get_some h122).1) ?_
 obtain ⟨k128,k129,rfl,hr130,hr131⟩:=hr126
 obtain ⟨k132,k133,rfl,hr134,hr135⟩:=hr130
 obtain ⟨rfl,hr134⟩:=hr134
 obtain ⟨k136,k137,rfl,hr138,hr139⟩:=hr135
 obtain ⟨rfl,hr138⟩:=hr138
 obtain ⟨rfl,hr139⟩:=hr139
 obtain ⟨k140,k141,rfl,hr142,hr143⟩:=hr131
 obtain ⟨k144,k145,rfl,hr146,hr147⟩:=hr142
 obtain ⟨rfl,hr146⟩:=hr146
 obtain ⟨k148,k149,rfl,hr150,hr151⟩:=hr147
 obtain ⟨rfl,hr150⟩:=hr150
 obtain ⟨rfl,hr151⟩:=hr151
 obtain ⟨k152,k153,rfl,hr154,hr155⟩:=hr143
 obtain ⟨rfl,hr154⟩:=hr154
 obtain ⟨rfl,hr155⟩:=hr155
 refine mixE.steady hD (v:=.agg #[iv x121.1.1,iv x121.1.2.1,iv x121.1.2.2,iv x121.2.1.1,iv x121.2.1.2.1,iv x121.2.1.2.2,iv x121.2.2.1,iv x121.2.2.2]) (fun _ hF=>ld_agg isAgg105 sizeOf105 rfl rfl (fun j u hu=>hF.cell (hc125 j u hu) (off2 ho127)))<|mp (.slice (some ad123) C.length M) (pu_move e1)<|mp (.pointer (some ((⟨g96,0,none⟩:Addr).add 0))) (pu_field (sz:=1) underlying107 rfl sizeOf3 (by decide) rfl e15)<|mixE.steady hD (v:=iv x86.1) (fun _ hF=>ld_fld (hS.bx2 (i:=1) rfl [] (by decide) hF) isAgg3 rfl rfl) ?_
 obtain ⟨x156,h157,hb⟩:=bd hb
 obtain ⟨ad158,cs159,hA,ho162,hc160,hr161⟩:=hS.elr2 (i:=2) rfl (get_some h157).2 []
 obtain rfl:=Option.some.inj hA
 refine mp (.pointer (some (ad123.add (x86.1.toNat*8)))) (pu_index (a:=x86.1) underlying68 sizeOf105 rfl rfl (get_some h157).1) ?_
 obtain ⟨k163,k164,rfl,hr165,hr166⟩:=hr161
 obtain ⟨k167,k168,rfl,hr169,hr170⟩:=hr165
 obtain ⟨rfl,hr169⟩:=hr169
 obtain ⟨k171,k172,rfl,hr173,hr174⟩:=hr170
 obtain ⟨rfl,hr173⟩:=hr173
 obtain ⟨rfl,hr174⟩:=hr174
 obtain ⟨k175,k176,rfl,hr177,hr178⟩:=hr166
 obtain ⟨k179,k180,rfl,hr181,hr182⟩:=hr177
 obtain ⟨rfl,hr181⟩:=hr181
 obtain ⟨k183,k184,rfl,hr185,hr186⟩:=hr182
 obtain ⟨rfl,hr185⟩:=hr185
 obtain ⟨rfl,hr186⟩:=hr186
 obtain ⟨k187,k188,rfl,hr189,hr190⟩:=hr178
 obtain ⟨rfl,hr189⟩:=hr189
 obtain ⟨rfl,hr190⟩:=hr190
 refine mixE.steady hD (v:=.agg #[iv x156.1.1,iv x156.1.2.1,iv x156.1.2.2,iv x156.2.1.1,iv x156.2.1.2.1,iv x156.2.1.2.2,iv x156.2.2.1,iv x156.2.2.2]) (fun _ hF=>ld_agg isAgg105 sizeOf105 rfl rfl (fun j u hu=>hF.cell (hc160 j u hu) (off2 ho162)))<|mixE.nil ?_
 refine mixPE_alt ?_ ?_
 refine mixPE_chain ?_
 refine mixE.op hM (hC.alloc (cs:=[iv 0,iv 0,iv 0,iv 0,iv 0,iv 0,iv 0,iv 0]) zeroValue105 rfl) ?_
 rintro _ w192 ⟨g191,rfl,hC,hF,hG⟩
 have hUf193:g191<w120.heap.size→g191∈blocks (([]:List Fact)++([]:List Fact)):=fun h=>absurd (Nat.lt_of_lt_of_le h (Nat.le_trans hM.size hG)) (Nat.lt_irrefl _)
 clear hG
 replace hM:=hM.none hF
 replace hD:=hM.wide (H:=([]:List Fact))
 refine ⟨hM,?_⟩
 refine mixE.nil ?_
 refine mixPE_chain ?_
 refine mixE.op hM (hC.alloc (cs:=[iv 0,iv 0,iv 0,iv 0,iv 0,iv 0,iv 0,iv 0]) zeroValue105 rfl) ?_
 rintro _ w195 ⟨g194,rfl,hC,hF,hG⟩
 have hUf196:g194<w120.heap.size→g194∈blocks (([]:List Fact)++([]:List Fact)):=fun h=>absurd (Nat.lt_of_lt_of_le h (Nat.le_trans hM.size hG)) (Nat.lt_irrefl _)
 clear hG
 replace hM:=hM.none hF
 replace hD:=hM.wide (H:=([]:List Fact))
 refine ⟨hM,?_⟩
 refine mixE.sk hD (hC.seta (i:=1) (ds:=[iv x121.1.1,iv x121.1.2.1,iv x121.1.2.2,iv x121.2.1.1,iv x121.2.1.2.1,iv x121.2.1.2.2,iv x121.2.2.1,iv x121.2.2.2]) rfl type105 rfl rfl rfl rfl rfl) ?_
 rintro w197 ⟨hC,hF⟩
 replace hD:=hD.besideG hUf193 hF
 clear hF
 refine ⟨hD,?_⟩
 refine mixE.sk hD (hC.seta (i:=0) (ds:=[iv x156.1.1,iv x156.1.2.1,iv x156.1.2.2,iv x156.2.1.1,iv x156.2.1.2.1,iv x156.2.1.2.2,iv x156.2.2.1,iv x156.2.2.2]) rfl type105 rfl rfl rfl rfl rfl) ?_
 rintro w198 ⟨hC,hF⟩
 replace hD:=hD.besideG hUf196 hF
 clear hF
 refine ⟨hD,?_⟩
 refine mixE.nil ?_
 clear hS hM
 clear hD
 refine hK118 _ _<|Wc.fresh fun E199 hE=>?_
 have e1:=cg hE 1 e1
 have e2:=cg hE 2 e2
 have e6:=cg hE 6 e6
 have e7:=cg hE 7 e7
 have e8:=cg hE 8 e8
 have e9:=cg hE 9 e9
 have e11:=cg hE 11 e11
 have e12:=cg hE 12 e12
 have e13:=cg hE 13 e13
 have e15:=cg hE 15 e15
 have e16:=cg hE 16 e16
 have e17:E199 17=iv (c.length:Int):=cg hE 17 rfl
 have e18:=cg hE 18 e18
 have e19:E199 19=pg g191:=cg hE 19 rfl
 have e20:E199 20=pg g194:=cg hE 20 rfl
 have e22:=cg hE 22 e22
 have e23:=cg hE 23 e23
 have e24:=cg hE 24 e24
 have e25:=cg hE 25 e25
 have e34:=cg hE 34 e34
 have e40:=cg hE 40 e40
 have e41:=cg hE 41 e41
 have e42:=cg hE 42 e42
 have e43:=cg hE 43 e43
 have e62:=cg hE 62 e62
 clear hE
 refine Wc.seq fun _ hK200=>?_
 refine Wc.seq fun _ hK201=>rg<|lp (.pointer (some ((⟨g96,0,none⟩:Addr).add 1))) (pu_field (sz:=1) underlying107 rfl sizeOf4 (by decide) rfl e15)<|lv (.bool x86.2) (ld_fld (hC.bx (i:=3) rfl) isAgg4 rfl rfl)<|lp (.bool (!x86.2)) (pu_not (q:=x86.2) rfl)<|ln (hK201 _ _ ?_)
 refine Wc.cond (t:=(!x86.2)) (rfl) (fun hq202=>?_) (fun hq202=>?_)
 replace hb:=tt hq202 hb
 refine rg<|lv (.agg #[iv x156.1.1,iv x156.1.2.1,iv x156.1.2.2,iv x156.2.1.1,iv x156.2.1.2.1,iv x156.2.1.2.2,iv x156.2.2.1,iv x156.2.2.2]) (ld_blk (hC.bx (i:=0) rfl) isAgg105 sizeOf105 e20)<|lv (.agg #[iv x121.1.1,iv x121.1.2.1,iv x121.1.2.2,iv x121.2.1.1,iv x121.2.1.2.1,iv x121.2.1.2.2,iv x121.2.2.1,iv x121.2.2.2]) (ld_blk (hC.bx (i:=1) rfl) isAgg105 sizeOf105 e19)<|lex.sk (hC.seta (i:=1) (ds:=[iv x156.1.1,iv x156.1.2.1,iv x156.1.2.2,iv x156.2.1.1,iv x156.2.1.2.1,iv x156.2.1.2.2,iv x156.2.2.1,iv x156.2.2.2]) rfl type105 rfl rfl rfl e19 rfl) ?_
 rintro w203 ⟨hC,hF⟩
 refine lex.sk (hC.seta (i:=0) (ds:=[iv x121.1.1,iv x121.1.2.1,iv x121.1.2.2,iv x121.2.1.1,iv x121.2.1.2.1,iv x121.2.1.2.2,iv x121.2.2.1,iv x121.2.2.2]) rfl type105 rfl rfl rfl e20 rfl) ?_
 rintro w204 ⟨hC,hF⟩
 refine ln (hK200 _ _ ?_)
 refine Wc.regionMix [85,86] (frm [85,86] [.own 3 si (.slice d c.length f) c] [.box g9 77 [.slice l g.length o,.slice d c.length f,iv x]]) (fun _=>rfl) mixed (by decide+kernel) (by decide+kernel) fun w206 hw205=>?_
 replace hC:=hC.step (Fr.of_drew hw205)
 have hM:=Fr.refl (fun k=>k∈blocks [.own 3 si (.slice d c.length f) c]) w206
 clear hw205
 have hS:=hC
 have L:Beside [.own 3 si (.slice d c.length f) c] w206 (.slice d c.length f):=Beside.of (i:=0) rfl
 have hD:Fr (fun k=>k∈blocks ([.own 3 si (.slice d c.length f) c]++[.box g9 77 [.slice l g.length o,.slice d c.length f,iv x]])) w206 w206:=hM.wide
 have b9:Beside ([.own 3 si (.slice d c.length f) c]++[.box g9 77 [.slice l g.length o,.slice d c.length f,iv x]]) w206 (.slice d c.length f):=Beside.of (i:=0) rfl
 have hUf11:g9<w206.heap.size→g9∈blocks ([.own 3 si (.slice d c.length f) c]++[.box g9 77 [.slice l g.length o,.slice d c.length f,iv x]]):=fun _=>box_in (i:=1) rfl
 refine mp (.pointer (some ((⟨g9,0,none⟩:Addr).add 1))) (pu_field (sz:=1) underlying77 rfl sizeOf30 (by decide) rfl e7)<|mixE.load hM (v:=.slice d c.length f) (fun _ hF=>ld_fld (hS.bx2 (i:=7) rfl [9] (by decide) hF) isAgg30 rfl rfl)<|mixE.steady hD (v:=.agg #[iv x156.1.1,iv x156.1.2.1,iv x156.1.2.2,iv x156.2.1.1,iv x156.2.1.2.1,iv x156.2.1.2.2,iv x156.2.2.1,iv x156.2.2.2]) (fun _ hF=>ld_blk (hS.bx2 (i:=1) rfl [9,7] (by decide) hF) isAgg105 sizeOf105 e19)<|mixE.steady hD (v:=.agg #[iv x121.1.1,iv x121.1.2.1,iv x121.1.2.2,iv x121.2.1.1,iv x121.2.1.2.1,iv x121.2.1.2.2,iv x121.2.2.1,iv x121.2.2.2]) (fun _ hF=>ld_blk (hS.bx2 (i:=0) rfl [9,7] (by decide) hF) isAgg105 sizeOf105 e20) ?_
 obtain ⟨y207,h208,hb⟩:=bd hb
 refine mixE.cl hM (⟨_,_,op_call (vs:=[.agg #[iv x156.1.1,iv x156.1.2.1,iv x156.1.2.2,iv x156.2.1.1,iv x156.2.1.2.1,iv x156.2.1.2.2,iv x156.2.2.1,iv x156.2.2.2],.agg #[iv x121.1.1,iv x121.1.2.1,iv x121.1.2.2,iv x121.2.1.1,iv x121.2.1.2.1,iv x121.2.1.2.2,iv x121.2.2.1,iv x121.2.2.2]]) call87 rfl rfl rfl,polygon_sign_ok n hC.lt (wrap_I64 hr169) (wrap_I64 hr173) (wrap_I64 hr174) (wrap_I64 hr181) (wrap_I64 hr185) (wrap_I64 hr186) (wrap_I64 hr189) (wrap_I64 hr190) (wrap_I64 hr134) (wrap_I64 hr138) (wrap_I64 hr139) (wrap_I64 hr146) (wrap_I64 hr150) (wrap_I64 hr151) (wrap_I64 hr154) (wrap_I64 hr155) h208⟩) ?_
 rintro _ w210 ⟨rfl,hr209,hK⟩
 replace hM:=hM.none hK.fr
 replace hD:=hM.wide (H:=[.box g9 77 [.slice l g.length o,.slice d c.length f,iv x]])
 refine ⟨hM,?_⟩
 replace hC:=hC.merge hK
 clear hK
 refine mixE.op hM (hC.lit (s:=si) (vs:=[iv y207]) (xs:=[y207]) underlying30 type3 rfl rfl (nb rfl) rfl rfl (by simp [Value.cells,Sh.n]) rfl (show Elems _ _ si ([iv y207]++([])) ([y207]:List Int) from Elems.cons (⟨rfl,I64.wr hr209⟩) (Elems.nil _ _ _))) ?_
 rintro _ w215 ⟨A211,c212,rfl,hl213,hc214,hC,hF,hN⟩
 have hBf216:=Beside.new hM hN
 have hUf216:=Beside.new (hM.wide (H:=[.box g9 77 [.slice l g.length o,.slice d c.length f,iv x]])) hN
 replace hM:=hM.none hF
 replace hD:=hM.wide (H:=[.box g9 77 [.slice l g.length o,.slice d c.length f,iv x]])
 refine ⟨hM,?_⟩
 clear hF hN
 obtain ⟨u217,h218,hb⟩:=bd hb
 refine mixE.op hM (hC.app (i:=10) (s:=si) (xs:=c) (ys:=([y207]:List Int)) (m:=((([y207]:List Int)).length)) rfl underlying30 underlying30 type3 rfl rfl rfl (hC.srco (i:=0) rfl) rfl rfl (by have:=lim_some h218; simp at this⊢ <;>omega) (by decide)) ?_
 rintro _ w223 ⟨A219,c220,rfl,hl221,hc222,hC,hF,hN⟩
 have hB:=L
 replace L:=hB.app hM hN
 replace hM:=hM.beside hB hF
 clear hB
 replace hD:=hM.wide (H:=[.box g9 77 [.slice l g.length o,.slice d c.length f,iv x]])
 refine ⟨hM,?_⟩
 clear hF hN
 refine mp (.pointer (some ((⟨g9,0,none⟩:Addr).add 1))) (pu_field (sz:=1) underlying77 rfl sizeOf30 (by decide) rfl e7)<|mixE.sk hD (hC.setf (i:=8) (k:=1) (v:=.slice A219 ((c++([y207]:List Int)).length) c220) rfl sizeOf30 rfl rfl rfl rfl) ?_
 rintro w224 ⟨hC,hF⟩
 replace hD:=hD.besideG hUf11 hF
 clear hF
 refine ⟨hD,?_⟩
 refine mixE.nil ?_
 clear hS hM
 clear hD
 exact hK109 _ _ ⟨(c.length:Int),(!(mget z ((min p x86.1),(max p x86.1))).isSome),(c++([y207]:List Int)),(z++[(((min p x86.1),(max p x86.1)),(c.length:Int))]),A219,(c++([y207]:List Int)).length,c220,e1,e2,e6,e7,e8,e9,e11,e12,e13,e15,e16,e17,e18,e22,e23,e24,e25,e34,e40,e41,e42,e43,e62,(I64.len b0 b1),hC.sE [5,6,7,8,9,10,11,12,13,4,3,14,15],hb⟩
 replace hb:=tf hq202 hb
 refine Wc.skip (hK200 _ _ ?_)
 refine Wc.regionMix [85,86] (frm [85,86] [.own 3 si (.slice d c.length f) c] [.box g9 77 [.slice l g.length o,.slice d c.length f,iv x]]) (fun _=>rfl) mixed (by decide+kernel) (by decide+kernel) fun w226 hw225=>?_
 replace hC:=hC.step (Fr.of_drew hw225)
 have hM:=Fr.refl (fun k=>k∈blocks [.own 3 si (.slice d c.length f) c]) w226
 clear hw225
 have hS:=hC
 have L:Beside [.own 3 si (.slice d c.length f) c] w226 (.slice d c.length f):=Beside.of (i:=0) rfl
 have hD:Fr (fun k=>k∈blocks ([.own 3 si (.slice d c.length f) c]++[.box g9 77 [.slice l g.length o,.slice d c.length f,iv x]])) w226 w226:=hM.wide
 have b9:Beside ([.own 3 si (.slice d c.length f) c]++[.box g9 77 [.slice l g.length o,.slice d c.length f,iv x]]) w226 (.slice d c.length f):=Beside.of (i:=0) rfl
 have hUf11:g9<w226.heap.size→g9∈blocks ([.own 3 si (.slice d c.length f) c]++[.box g9 77 [.slice l g.length o,.slice d c.length f,iv x]]):=fun _=>box_in (i:=1) rfl
 refine mp (.pointer (some ((⟨g9,0,none⟩:Addr).add 1))) (pu_field (sz:=1) underlying77 rfl sizeOf30 (by decide) rfl e7)<|mixE.load hM (v:=.slice d c.length f) (fun _ hF=>ld_fld (hS.bx2 (i:=7) rfl [9] (by decide) hF) isAgg30 rfl rfl)<|mixE.steady hD (v:=.agg #[iv x121.1.1,iv x121.1.2.1,iv x121.1.2.2,iv x121.2.1.1,iv x121.2.1.2.1,iv x121.2.1.2.2,iv x121.2.2.1,iv x121.2.2.2]) (fun _ hF=>ld_blk (hS.bx2 (i:=1) rfl [9,7] (by decide) hF) isAgg105 sizeOf105 e19)<|mixE.steady hD (v:=.agg #[iv x156.1.1,iv x156.1.2.1,iv x156.1.2.2,iv x156.2.1.1,iv x156.2.1.2.1,iv x156.2.1.2.2,iv x156.2.2.1,iv x156.2.2.2]) (fun _ hF=>ld_blk (hS.bx2 (i:=0) rfl [9,7] (by decide) hF) isAgg105 sizeOf105 e20) ?_
 obtain ⟨y227,h228,hb⟩:=bd hb
 refine mixE.cl hM (⟨_,_,op_call (vs:=[.agg #[iv x121.1.1,iv x121.1.2.1,iv x121.1.2.2,iv x121.2.1.1,iv x121.2.1.2.1,iv x121.2.1.2.2,iv x121.2.2.1,iv x121.2.2.2],.agg #[iv x156.1.1,iv x156.1.2.1,iv x156.1.2.2,iv x156.2.1.1,iv x156.2.1.2.1,iv x156.2.1.2.2,iv x156.2.2.1,iv x156.2.2.2]]) call87 rfl rfl rfl,polygon_sign_ok n hC.lt (wrap_I64 hr134) (wrap_I64 hr138) (wrap_I64 hr139) (wrap_I64 hr146) (wrap_I64 hr150) (wrap_I64 hr151) (wrap_I64 hr154) (wrap_I64 hr155) (wrap_I64 hr169) (wrap_I64 hr173) (wrap_I64 hr174) (wrap_I64 hr181) (wrap_I64 hr185) (wrap_I64 hr186) (wrap_I64 hr189) (wrap_I64 hr190) h228⟩) ?_
 rintro _ w230 ⟨rfl,hr229,hK⟩
 replace hM:=hM.none hK.fr
 replace hD:=hM.wide (H:=[.box g9 77 [.slice l g.length o,.slice d c.length f,iv x]])
 refine ⟨hM,?_⟩
 replace hC:=hC.merge hK
 clear hK
 refine mixE.op hM (hC.lit (s:=si) (vs:=[iv y227]) (xs:=[y227]) underlying30 type3 rfl rfl (nb rfl) rfl rfl (by simp [Value.cells,Sh.n]) rfl (show Elems _ _ si ([iv y227]++([])) ([y227]:List Int) from Elems.cons (⟨rfl,I64.wr hr229⟩) (Elems.nil _ _ _))) ?_
 rintro _ w235 ⟨A231,c232,rfl,hl233,hc234,hC,hF,hN⟩
 have hBf236:=Beside.new hM hN
 have hUf236:=Beside.new (hM.wide (H:=[.box g9 77 [.slice l g.length o,.slice d c.length f,iv x]])) hN
 replace hM:=hM.none hF
 replace hD:=hM.wide (H:=[.box g9 77 [.slice l g.length o,.slice d c.length f,iv x]])
 refine ⟨hM,?_⟩
 clear hF hN
 obtain ⟨u237,h238,hb⟩:=bd hb
 refine mixE.op hM (hC.app (i:=10) (s:=si) (xs:=c) (ys:=([y227]:List Int)) (m:=((([y227]:List Int)).length)) rfl underlying30 underlying30 type3 rfl rfl rfl (hC.srco (i:=0) rfl) rfl rfl (by have:=lim_some h238; simp at this⊢ <;>omega) (by decide)) ?_
 rintro _ w243 ⟨A239,c240,rfl,hl241,hc242,hC,hF,hN⟩
 have hB:=L
 replace L:=hB.app hM hN
 replace hM:=hM.beside hB hF
 clear hB
 replace hD:=hM.wide (H:=[.box g9 77 [.slice l g.length o,.slice d c.length f,iv x]])
 refine ⟨hM,?_⟩
 clear hF hN
 refine mp (.pointer (some ((⟨g9,0,none⟩:Addr).add 1))) (pu_field (sz:=1) underlying77 rfl sizeOf30 (by decide) rfl e7)<|mixE.sk hD (hC.setf (i:=8) (k:=1) (v:=.slice A239 ((c++([y227]:List Int)).length) c240) rfl sizeOf30 rfl rfl rfl rfl) ?_
 rintro w244 ⟨hC,hF⟩
 replace hD:=hD.besideG hUf11 hF
 clear hF
 refine ⟨hD,?_⟩
 refine mixE.nil ?_
 clear hS hM
 clear hD
 exact hK109 _ _ ⟨(c.length:Int),(!(mget z ((min p x86.1),(max p x86.1))).isSome),(c++([y227]:List Int)),(z++[(((min p x86.1),(max p x86.1)),(c.length:Int))]),A239,(c++([y227]:List Int)).length,c240,e1,e2,e6,e7,e8,e9,e11,e12,e13,e15,e16,e17,e18,e22,e23,e24,e25,e34,e40,e41,e42,e43,e62,(I64.len b0 b1),hC.sE [5,6,7,8,9,10,11,12,13,4,3,14,15],hb⟩
 refine mixPE_chain ?_
 refine mixE.op hM (hC.alloc (cs:=[iv 0,iv 0,iv 0,iv 0,iv 0,iv 0,iv 0,iv 0]) zeroValue105 rfl) ?_
 rintro _ w246 ⟨g245,rfl,hC,hF,hG⟩
 have hUf247:g245<w120.heap.size→g245∈blocks (([]:List Fact)++([]:List Fact)):=fun h=>absurd (Nat.lt_of_lt_of_le h (Nat.le_trans hM.size hG)) (Nat.lt_irrefl _)
 clear hG
 replace hM:=hM.none hF
 replace hD:=hM.wide (H:=([]:List Fact))
 refine ⟨hM,?_⟩
 refine mixE.nil ?_
 refine mixPE_chain ?_
 refine mixE.op hM (hC.alloc (cs:=[iv 0,iv 0,iv 0,iv 0,iv 0,iv 0,iv 0,iv 0]) zeroValue105 rfl) ?_
 rintro _ w249 ⟨g248,rfl,hC,hF,hG⟩
 have hUf250:g248<w120.heap.size→g248∈blocks (([]:List Fact)++([]:List Fact)):=fun h=>absurd (Nat.lt_of_lt_of_le h (Nat.le_trans hM.size hG)) (Nat.lt_irrefl _)
 clear hG
 replace hM:=hM.none hF
 replace hD:=hM.wide (H:=([]:List Fact))
 refine ⟨hM,?_⟩
 refine mixE.sk hD (hC.seta (i:=0) (ds:=[iv x121.1.1,iv x121.1.2.1,iv x121.1.2.2,iv x121.2.1.1,iv x121.2.1.2.1,iv x121.2.1.2.2,iv x121.2.2.1,iv x121.2.2.2]) rfl type105 rfl rfl rfl rfl rfl) ?_
 rintro w251 ⟨hC,hF⟩
 replace hD:=hD.besideG hUf250 hF
 clear hF
 refine ⟨hD,?_⟩
 refine mixE.sk hD (hC.seta (i:=1) (ds:=[iv x156.1.1,iv x156.1.2.1,iv x156.1.2.2,iv x156.2.1.1,iv x156.2.1.2.1,iv x156.2.1.2.2,iv x156.2.2.1,iv x156.2.2.2]) rfl type105 rfl rfl rfl rfl rfl) ?_
 rintro w252 ⟨hC,hF⟩
 replace hD:=hD.besideG hUf247 hF
 clear hF
 refine ⟨hD,?_⟩
 refine mixE.nil ?_
 clear hS hM
 clear hD
 refine hK118 _ _<|Wc.fresh fun E253 hE=>?_
 have e1:=cg hE 1 e1
 have e2:=cg hE 2 e2
 have e6:=cg hE 6 e6
 have e7:=cg hE 7 e7
 have e8:=cg hE 8 e8
 have e9:=cg hE 9 e9
 have e11:=cg hE 11 e11
 have e12:=cg hE 12 e12
 have e13:=cg hE 13 e13
 have e15:=cg hE 15 e15
 have e16:=cg hE 16 e16
 have e17:E253 17=iv (c.length:Int):=cg hE 17 rfl
 have e18:=cg hE 18 e18
 have e19:E253 19=pg g248:=cg hE 19 rfl
 have e20:E253 20=pg g245:=cg hE 20 rfl
 have e22:=cg hE 22 e22
 have e23:=cg hE 23 e23
 have e24:=cg hE 24 e24
 have e25:=cg hE 25 e25
 have e34:=cg hE 34 e34
 have e40:=cg hE 40 e40
 have e41:=cg hE 41 e41
 have e42:=cg hE 42 e42
 have e43:=cg hE 43 e43
 have e62:=cg hE 62 e62
 clear hE
 refine Wc.seq fun _ hK254=>?_
 refine Wc.seq fun _ hK255=>rg<|lp (.pointer (some ((⟨g96,0,none⟩:Addr).add 1))) (pu_field (sz:=1) underlying107 rfl sizeOf4 (by decide) rfl e15)<|lv (.bool x86.2) (ld_fld (hC.bx (i:=3) rfl) isAgg4 rfl rfl)<|lp (.bool (!x86.2)) (pu_not (q:=x86.2) rfl)<|ln (hK255 _ _ ?_)
 refine Wc.cond (t:=(!x86.2)) (rfl) (fun hq256=>?_) (fun hq256=>?_)
 replace hb:=tt hq256 hb
 refine rg<|lv (.agg #[iv x156.1.1,iv x156.1.2.1,iv x156.1.2.2,iv x156.2.1.1,iv x156.2.1.2.1,iv x156.2.1.2.2,iv x156.2.2.1,iv x156.2.2.2]) (ld_blk (hC.bx (i:=1) rfl) isAgg105 sizeOf105 e20)<|lv (.agg #[iv x121.1.1,iv x121.1.2.1,iv x121.1.2.2,iv x121.2.1.1,iv x121.2.1.2.1,iv x121.2.1.2.2,iv x121.2.2.1,iv x121.2.2.2]) (ld_blk (hC.bx (i:=0) rfl) isAgg105 sizeOf105 e19)<|lex.sk (hC.seta (i:=0) (ds:=[iv x156.1.1,iv x156.1.2.1,iv x156.1.2.2,iv x156.2.1.1,iv x156.2.1.2.1,iv x156.2.1.2.2,iv x156.2.2.1,iv x156.2.2.2]) rfl type105 rfl rfl rfl e19 rfl) ?_
 rintro w257 ⟨hC,hF⟩
 refine lex.sk (hC.seta (i:=1) (ds:=[iv x121.1.1,iv x121.1.2.1,iv x121.1.2.2,iv x121.2.1.1,iv x121.2.1.2.1,iv x121.2.1.2.2,iv x121.2.2.1,iv x121.2.2.2]) rfl type105 rfl rfl rfl e20 rfl) ?_
 rintro w258 ⟨hC,hF⟩
 refine ln (hK254 _ _ ?_)
 refine Wc.regionMix [85,86] (frm [85,86] [.own 3 si (.slice d c.length f) c] [.box g9 77 [.slice l g.length o,.slice d c.length f,iv x]]) (fun _=>rfl) mixed (by decide+kernel) (by decide+kernel) fun w260 hw259=>?_
 replace hC:=hC.step (Fr.of_drew hw259)
 have hM:=Fr.refl (fun k=>k∈blocks [.own 3 si (.slice d c.length f) c]) w260
 clear hw259
 have hS:=hC
 have L:Beside [.own 3 si (.slice d c.length f) c] w260 (.slice d c.length f):=Beside.of (i:=0) rfl
 have hD:Fr (fun k=>k∈blocks ([.own 3 si (.slice d c.length f) c]++[.box g9 77 [.slice l g.length o,.slice d c.length f,iv x]])) w260 w260:=hM.wide
 have b9:Beside ([.own 3 si (.slice d c.length f) c]++[.box g9 77 [.slice l g.length o,.slice d c.length f,iv x]]) w260 (.slice d c.length f):=Beside.of (i:=0) rfl
 have hUf11:g9<w260.heap.size→g9∈blocks ([.own 3 si (.slice d c.length f) c]++[.box g9 77 [.slice l g.length o,.slice d c.length f,iv x]]):=fun _=>box_in (i:=1) rfl
 refine mp (.pointer (some ((⟨g9,0,none⟩:Addr).add 1))) (pu_field (sz:=1) underlying77 rfl sizeOf30 (by decide) rfl e7)<|mixE.load hM (v:=.slice d c.length f) (fun _ hF=>ld_fld (hS.bx2 (i:=7) rfl [9] (by decide) hF) isAgg30 rfl rfl)<|mixE.steady hD (v:=.agg #[iv x156.1.1,iv x156.1.2.1,iv x156.1.2.2,iv x156.2.1.1,iv x156.2.1.2.1,iv x156.2.1.2.2,iv x156.2.2.1,iv x156.2.2.2]) (fun _ hF=>ld_blk (hS.bx2 (i:=0) rfl [9,7] (by decide) hF) isAgg105 sizeOf105 e19)<|mixE.steady hD (v:=.agg #[iv x121.1.1,iv x121.1.2.1,iv x121.1.2.2,iv x121.2.1.1,iv x121.2.1.2.1,iv x121.2.1.2.2,iv x121.2.2.1,iv x121.2.2.2]) (fun _ hF=>ld_blk (hS.bx2 (i:=1) rfl [9,7] (by decide) hF) isAgg105 sizeOf105 e20) ?_
 obtain ⟨y207,h262,hb⟩:=bd hb
 refine mixE.cl hM (⟨_,_,op_call (vs:=[.agg #[iv x156.1.1,iv x156.1.2.1,iv x156.1.2.2,iv x156.2.1.1,iv x156.2.1.2.1,iv x156.2.1.2.2,iv x156.2.2.1,iv x156.2.2.2],.agg #[iv x121.1.1,iv x121.1.2.1,iv x121.1.2.2,iv x121.2.1.1,iv x121.2.1.2.1,iv x121.2.1.2.2,iv x121.2.2.1,iv x121.2.2.2]]) call87 rfl rfl rfl,polygon_sign_ok n hC.lt (wrap_I64 hr169) (wrap_I64 hr173) (wrap_I64 hr174) (wrap_I64 hr181) (wrap_I64 hr185) (wrap_I64 hr186) (wrap_I64 hr189) (wrap_I64 hr190) (wrap_I64 hr134) (wrap_I64 hr138) (wrap_I64 hr139) (wrap_I64 hr146) (wrap_I64 hr150) (wrap_I64 hr151) (wrap_I64 hr154) (wrap_I64 hr155) h262⟩) ?_
 rintro _ w264 ⟨rfl,hr263,hK⟩
 replace hM:=hM.none hK.fr
 replace hD:=hM.wide (H:=[.box g9 77 [.slice l g.length o,.slice d c.length f,iv x]])
 refine ⟨hM,?_⟩
 replace hC:=hC.merge hK
 clear hK
 refine mixE.op hM (hC.lit (s:=si) (vs:=[iv y207]) (xs:=[y207]) underlying30 type3 rfl rfl (nb rfl) rfl rfl (by simp [Value.cells,Sh.n]) rfl (show Elems _ _ si ([iv y207]++([])) ([y207]:List Int) from Elems.cons (⟨rfl,I64.wr hr263⟩) (Elems.nil _ _ _))) ?_
 rintro _ w269 ⟨A265,c266,rfl,hl267,hc268,hC,hF,hN⟩
 have hBf270:=Beside.new hM hN
 have hUf270:=Beside.new (hM.wide (H:=[.box g9 77 [.slice l g.length o,.slice d c.length f,iv x]])) hN
 replace hM:=hM.none hF
 replace hD:=hM.wide (H:=[.box g9 77 [.slice l g.length o,.slice d c.length f,iv x]])
 refine ⟨hM,?_⟩
 clear hF hN
 obtain ⟨u217,h272,hb⟩:=bd hb
 refine mixE.op hM (hC.app (i:=10) (s:=si) (xs:=c) (ys:=([y207]:List Int)) (m:=((([y207]:List Int)).length)) rfl underlying30 underlying30 type3 rfl rfl rfl (hC.srco (i:=0) rfl) rfl rfl (by have:=lim_some h272; simp at this⊢ <;>omega) (by decide)) ?_
 rintro _ w277 ⟨A273,c274,rfl,hl275,hc276,hC,hF,hN⟩
 have hB:=L
 replace L:=hB.app hM hN
 replace hM:=hM.beside hB hF
 clear hB
 replace hD:=hM.wide (H:=[.box g9 77 [.slice l g.length o,.slice d c.length f,iv x]])
 refine ⟨hM,?_⟩
 clear hF hN
 refine mp (.pointer (some ((⟨g9,0,none⟩:Addr).add 1))) (pu_field (sz:=1) underlying77 rfl sizeOf30 (by decide) rfl e7)<|mixE.sk hD (hC.setf (i:=8) (k:=1) (v:=.slice A273 ((c++([y207]:List Int)).length) c274) rfl sizeOf30 rfl rfl rfl rfl) ?_
 rintro w278 ⟨hC,hF⟩
 replace hD:=hD.besideG hUf11 hF
 clear hF
 refine ⟨hD,?_⟩
 refine mixE.nil ?_
 clear hS hM
 clear hD
 exact hK109 _ _ ⟨(c.length:Int),(!(mget z ((min p x86.1),(max p x86.1))).isSome),(c++([y207]:List Int)),(z++[(((min p x86.1),(max p x86.1)),(c.length:Int))]),A273,(c++([y207]:List Int)).length,c274,e1,e2,e6,e7,e8,e9,e11,e12,e13,e15,e16,e17,e18,e22,e23,e24,e25,e34,e40,e41,e42,e43,e62,(I64.len b0 b1),hC.sE [5,6,7,8,9,10,11,12,13,4,3,14,15],hb⟩
 replace hb:=tf hq256 hb
 refine Wc.skip (hK254 _ _ ?_)
 refine Wc.regionMix [85,86] (frm [85,86] [.own 3 si (.slice d c.length f) c] [.box g9 77 [.slice l g.length o,.slice d c.length f,iv x]]) (fun _=>rfl) mixed (by decide+kernel) (by decide+kernel) fun w280 hw279=>?_
 replace hC:=hC.step (Fr.of_drew hw279)
 have hM:=Fr.refl (fun k=>k∈blocks [.own 3 si (.slice d c.length f) c]) w280
 clear hw279
 have hS:=hC
 have L:Beside [.own 3 si (.slice d c.length f) c] w280 (.slice d c.length f):=Beside.of (i:=0) rfl
 have hD:Fr (fun k=>k∈blocks ([.own 3 si (.slice d c.length f) c]++[.box g9 77 [.slice l g.length o,.slice d c.length f,iv x]])) w280 w280:=hM.wide
 have b9:Beside ([.own 3 si (.slice d c.length f) c]++[.box g9 77 [.slice l g.length o,.slice d c.length f,iv x]]) w280 (.slice d c.length f):=Beside.of (i:=0) rfl
 have hUf11:g9<w280.heap.size→g9∈blocks ([.own 3 si (.slice d c.length f) c]++[.box g9 77 [.slice l g.length o,.slice d c.length f,iv x]]):=fun _=>box_in (i:=1) rfl
 refine mp (.pointer (some ((⟨g9,0,none⟩:Addr).add 1))) (pu_field (sz:=1) underlying77 rfl sizeOf30 (by decide) rfl e7)<|mixE.load hM (v:=.slice d c.length f) (fun _ hF=>ld_fld (hS.bx2 (i:=7) rfl [9] (by decide) hF) isAgg30 rfl rfl)<|mixE.steady hD (v:=.agg #[iv x121.1.1,iv x121.1.2.1,iv x121.1.2.2,iv x121.2.1.1,iv x121.2.1.2.1,iv x121.2.1.2.2,iv x121.2.2.1,iv x121.2.2.2]) (fun _ hF=>ld_blk (hS.bx2 (i:=0) rfl [9,7] (by decide) hF) isAgg105 sizeOf105 e19)<|mixE.steady hD (v:=.agg #[iv x156.1.1,iv x156.1.2.1,iv x156.1.2.2,iv x156.2.1.1,iv x156.2.1.2.1,iv x156.2.1.2.2,iv x156.2.2.1,iv x156.2.2.2]) (fun _ hF=>ld_blk (hS.bx2 (i:=1) rfl [9,7] (by decide) hF) isAgg105 sizeOf105 e20) ?_
 obtain ⟨y227,h282,hb⟩:=bd hb
 refine mixE.cl hM (⟨_,_,op_call (vs:=[.agg #[iv x121.1.1,iv x121.1.2.1,iv x121.1.2.2,iv x121.2.1.1,iv x121.2.1.2.1,iv x121.2.1.2.2,iv x121.2.2.1,iv x121.2.2.2],.agg #[iv x156.1.1,iv x156.1.2.1,iv x156.1.2.2,iv x156.2.1.1,iv x156.2.1.2.1,iv x156.2.1.2.2,iv x156.2.2.1,iv x156.2.2.2]]) call87 rfl rfl rfl,polygon_sign_ok n hC.lt (wrap_I64 hr134) (wrap_I64 hr138) (wrap_I64 hr139) (wrap_I64 hr146) (wrap_I64 hr150) (wrap_I64 hr151) (wrap_I64 hr154) (wrap_I64 hr155) (wrap_I64 hr169) (wrap_I64 hr173) (wrap_I64 hr174) (wrap_I64 hr181) (wrap_I64 hr185) (wrap_I64 hr186) (wrap_I64 hr189) (wrap_I64 hr190) h282⟩) ?_
 rintro _ w284 ⟨rfl,hr283,hK⟩
 replace hM:=hM.none hK.fr
 replace hD:=hM.wide (H:=[.box g9 77 [.slice l g.length o,.slice d c.length f,iv x]])
 refine ⟨hM,?_⟩
 replace hC:=hC.merge hK
 clear hK
 refine mixE.op hM (hC.lit (s:=si) (vs:=[iv y227]) (xs:=[y227]) underlying30 type3 rfl rfl (nb rfl) rfl rfl (by simp [Value.cells,Sh.n]) rfl (show Elems _ _ si ([iv y227]++([])) ([y227]:List Int) from Elems.cons (⟨rfl,I64.wr hr283⟩) (Elems.nil _ _ _))) ?_
 rintro _ w289 ⟨A285,c286,rfl,hl287,hc288,hC,hF,hN⟩
 have hBf290:=Beside.new hM hN
 have hUf290:=Beside.new (hM.wide (H:=[.box g9 77 [.slice l g.length o,.slice d c.length f,iv x]])) hN
 replace hM:=hM.none hF
 replace hD:=hM.wide (H:=[.box g9 77 [.slice l g.length o,.slice d c.length f,iv x]])
 refine ⟨hM,?_⟩
 clear hF hN
 obtain ⟨u237,h292,hb⟩:=bd hb
 refine mixE.op hM (hC.app (i:=10) (s:=si) (xs:=c) (ys:=([y227]:List Int)) (m:=((([y227]:List Int)).length)) rfl underlying30 underlying30 type3 rfl rfl rfl (hC.srco (i:=0) rfl) rfl rfl (by have:=lim_some h292; simp at this⊢ <;>omega) (by decide)) ?_
 rintro _ w297 ⟨A293,c294,rfl,hl295,hc296,hC,hF,hN⟩
 have hB:=L
 replace L:=hB.app hM hN
 replace hM:=hM.beside hB hF
 clear hB
 replace hD:=hM.wide (H:=[.box g9 77 [.slice l g.length o,.slice d c.length f,iv x]])
 refine ⟨hM,?_⟩
 clear hF hN
 refine mp (.pointer (some ((⟨g9,0,none⟩:Addr).add 1))) (pu_field (sz:=1) underlying77 rfl sizeOf30 (by decide) rfl e7)<|mixE.sk hD (hC.setf (i:=8) (k:=1) (v:=.slice A293 ((c++([y227]:List Int)).length) c294) rfl sizeOf30 rfl rfl rfl rfl) ?_
 rintro w298 ⟨hC,hF⟩
 replace hD:=hD.besideG hUf11 hF
 clear hF
 refine ⟨hD,?_⟩
 refine mixE.nil ?_
 clear hS hM
 clear hD
 exact hK109 _ _ ⟨(c.length:Int),(!(mget z ((min p x86.1),(max p x86.1))).isSome),(c++([y227]:List Int)),(z++[(((min p x86.1),(max p x86.1)),(c.length:Int))]),A293,(c++([y227]:List Int)).length,c294,e1,e2,e6,e7,e8,e9,e11,e12,e13,e15,e16,e17,e18,e22,e23,e24,e25,e34,e40,e41,e42,e43,e62,(I64.len b0 b1),hC.sE [5,6,7,8,9,10,11,12,13,4,3,14,15],hb⟩
 replace hb:=tf hq112 hb
 refine Wc.skip ?_
 exact hK109 _ _ ⟨z107,(!(mget z ((min p x86.1),(max p x86.1))).isSome),c,z,d,c.length,f,e1,e2,e6,e7,e8,e9,e11,e12,e13,e15,e16,e17,e18,e22,e23,e24,e25,e34,e40,e41,e42,e43,e62,(chk_rng h108),hC.sE [2,3,4,5,6,7,8,9,10,1,0,11,12],hb⟩
 clear hb hC
 rintro E300 w299 ⟨Y,d9,b6,c5,b7,c2,b8,e1,e2,e6,e7,e8,e9,e11,e12,e13,e15,e16,e17,e18,e22,e23,e24,e25,e34,e40,e41,e42,e43,e62,f0,hC,hb⟩
 unfold F.polygon_code_j3 at hb
 obtain ⟨rfl,f5,f6⟩:=(hC.ow (i:=5) rfl).sl_len
 refine rg<|lp _ (pu_move e12)<|lp _ (pu_move e17)<|lp (.pointer (some ((⟨g96,0,none⟩:Addr).add 1))) (pu_field (sz:=1) underlying107 rfl sizeOf4 (by decide) rfl e15)<|lv (.bool x86.2) (ld_fld (hC.bx (i:=9) rfl) isAgg4 rfl rfl)<|lp (.agg #[iv Y,.bool x86.2]) (pu_builds (places:=[(0,1),(1,1)]) (pv:=[(0,iv Y),(1,.bool x86.2)]) type119 underlying119 rfl (mp_cons type3 (mp_cons type4 mp_nil rfl rfl) rfl rfl) rfl (by simp [Instr.fill,Value.cells]))<|lex.op (hC.lit (s:=(.pr si .bool)) (vs:=[.agg #[iv Y,.bool x86.2]]) (xs:=[(Y,x86.2)]) underlying116 type119 rfl rfl (nb rfl) rfl rfl (by simp [Value.cells,Sh.n]) rfl (show Elems _ _ (.pr si .bool) ([iv Y,.bool x86.2]++([])) ([(Y,x86.2)]:List (Int×Bool)) from Elems.cons (⟨[iv Y],[.bool x86.2],rfl,⟨rfl,I64.wr f0⟩,show Rep _ _ .bool _ _ from rfl⟩) (Elems.nil _ _ _))) ?_
 rintro _ w305 ⟨A301,c302,rfl,hl303,hc304,hC,-,-⟩
 obtain ⟨u307,h308,hb⟩:=bd hb
 refine lex.op (hC.app (i:=9) (s:=(.pr si .bool)) (xs:=U) (ys:=([(Y,x86.2)]:List (Int×Bool))) (m:=((([(Y,x86.2)]:List (Int×Bool))).length)) rfl underlying116 underlying116 type119 rfl rfl rfl (hC.srco (i:=0) rfl) rfl rfl (by have:=lim_some h308; simp at this⊢ <;>omega) (by decide)) ?_
 rintro _ w313 ⟨A309,c310,rfl,hl311,hc312,hC,-,-⟩
 refine lp (.slice A309 ((U++([(Y,x86.2)]:List (Int×Bool))).length) c310) (pu_assign rfl)<|ln (hK84 _ _ ?_)
 refine rg ?_
 obtain ⟨z314,h315,hb⟩:=bd hb
 refine lp (iv z314) (pu_addc (a:=X) (b:=1) e42 rfl h315)<|lp (iv z314) (pu_move rfl)<|ln ?_
 obtain rfl:=os hb
 exact hK76 m77' _ _ (Nat.lt_succ_self _) ⟨(U++([(Y,x86.2)]:List (Int×Bool))),z314,b6,c5,A309,(U++([(Y,x86.2)]:List (Int×Bool))).length,c310,b7,b6.length,b8,e1,e2,e6,e7,e8,e9,e11,rfl,e13,e22,e23,e24,e25,e34,e40,e41,rfl,(chk_rng h315),hC.sE [1,2,3,4,5,6,7,8,9,12,13],lN hl2⟩
 replace hb:=tf hq83 hb
 refine Wc.exit rfl ?_
 obtain rfl:=os hb
 obtain rfl:=(lX hl2).symm
 exact hK75 _ _ ⟨U,X,c,z,a6,U.length,a7,d,c.length,f,e1,e2,e6,e7,e8,e9,e11,e12,e13,e22,e23,e24,e25,e34,e40,e41,e42,d2,hC.sE [0,1,2,3,4,5,6,7,8,9,10],hbK2⟩
 clear hb hC hl2
 rintro E317 w316 ⟨U,X,c,z,a6,b5,a7,d,a8,f,e1,e2,e6,e7,e8,e9,e11,e12,e13,e22,e23,e24,e25,e34,e40,e41,e42,d2,hC,hb⟩
 obtain ⟨rfl,e4,e5⟩:=(hC.ow (i:=8) rfl).sl_len
 obtain ⟨rfl,b0,b1⟩:=(hC.ow (i:=5) rfl).sl_len
 refine hK60 _ _<|rg<|lp _ (pu_move e13) ?_
 obtain ⟨z318,h319,hb⟩:=bd hb
 refine lp (iv z318) (pu_addc (a:=p) (b:=1) rfl rfl h319)<|lp (iv z318) (pu_assign rfl)<|ln ?_
 obtain rfl:=os hb
 exact hK50 m51' _ _ (Nat.lt_succ_self _) ⟨U,z318,c,z,a6,U.length,a7,d,c.length,f,e1,e2,e6,e7,e8,e9,e11,e12,rfl,e22,e23,e24,e25,(chk_rng h319),hC.sE [0,1,2,3,4,5,6,7,8,9],lN hl1⟩
 replace hb:=tf hq59 hb
 refine Wc.exit rfl ?_
 obtain rfl:=os hb
 obtain rfl:=(lX hl1).symm
 exact hK49 _ _ ⟨D,p,G,a0,a1,D.length,a2,S,G.length,T,e1,e2,e6,e7,e8,e9,e11,e12,e13,e22,e23,e24,e25,d1,hC.sE [0,1,2,3,4,5,6,7,8,9],hbK1⟩
 clear hb hC hl1
 rintro E321 w320 ⟨D,p,G,a0,a1,b4,a2,S,a5,T,e1,e2,e6,e7,e8,e9,e11,e12,e13,e22,e23,e24,e25,d1,hC,hb⟩
 obtain ⟨rfl,e0,e3⟩:=(hC.ow (i:=8) rfl).sl_len
 obtain ⟨rfl,d7,d8⟩:=(hC.ow (i:=5) rfl).sl_len
 refine hK45 _ _<|Wc.seq fun _ hK322=>rg<|lp _ (pu_move e9)<|lp _ (pu_move e11)<|lp (iv (x33.length:Int)) (pu_len (A:=A39) (n:=x33.length) (m:=c40) underlying43 rfl) ?_
 obtain ⟨z323,h324,hb⟩:=bd hb
 refine lp (iv z323) (pu_addc (a:=Z) (b:=(x33.length:Int)) rfl rfl h324)<|lp (iv z323) (pu_assign rfl)<|ln (hK322 _ _ ?_)
 refine Wc.seq fun _ hK325=>rg<|lp _ (pu_move e12)<|lp (iv (D.length:Int)) (pu_len (A:=a1) (n:=D.length) (m:=a2) underlying116 rfl)<|lp (.bool (decide (0<(D.length:Int)))) (pu_gtr (k:=.i64) (a:=(D.length:Int)) (b:=0) rfl rfl)<|ln (hK325 _ _ ?_)
 refine Wc.cond (t:=(decide (0<(D.length:Int)))) (rfl) (fun hq326=>?_) (fun hq326=>?_)
 replace hb:=tt hq326 hb
 refine rg<|lp (.pointer (some ((⟨g9,0,none⟩:Addr).add 0))) (pu_field (sz:=1) underlying77 rfl sizeOf75 (by decide) rfl e7)<|lv (.slice l g.length o) (ld_fld (hC.bx (i:=3) rfl) isAgg75 rfl rfl)<|lp _ (pu_move e12) ?_
 replace hC:=hC.freeze (i:=8) rfl (hC.own_new (i:=8) rfl)
 refine lex.op (hC.lit (s:=(.sl (.pr si .bool))) (vs:=[.slice a1 D.length a2]) (xs:=[D]) underlying75 type116 rfl rfl (nb rfl) rfl rfl (by simp [Value.cells,Sh.n]) rfl (show Elems _ _ (.sl (.pr si .bool)) ([.slice a1 D.length a2]++([])) ([D]:List (List (Int×Bool))) from Elems.cons (hC.rd (i:=8) rfl) (Elems.nil _ _ _))) ?_
 rintro _ w331 ⟨A327,c328,rfl,hl329,hc330,hC,-,-⟩
 obtain ⟨u333,h334,hb⟩:=bd hb
 refine lex.op (hC.app (i:=5) (s:=(.sl (.pr si .bool))) (xs:=g) (ys:=([D]:List (List (Int×Bool)))) (m:=((([D]:List (List (Int×Bool)))).length)) rfl underlying75 underlying75 type116 rfl rfl rfl (hC.srco (i:=0) rfl) rfl rfl (by have:=lim_some h334; simp at this⊢ <;>omega) (by decide)) ?_
 rintro _ w339 ⟨A335,c336,rfl,hl337,hc338,hC,-,-⟩
 refine lp (.pointer (some ((⟨g9,0,none⟩:Addr).add 0))) (pu_field (sz:=1) underlying77 rfl sizeOf75 (by decide) rfl e7)<|lex.sk (hC.setf (i:=4) (k:=0) (v:=.slice A335 ((g++([D]:List (List (Int×Bool)))).length) c336) rfl sizeOf75 rfl rfl rfl rfl) ?_
 rintro w340 ⟨hC,hF⟩
 refine ln (hK31 _ _ ?_)
 refine rg ?_
 obtain ⟨z341,h342,hb⟩:=bd hb
 refine lp (iv z341) (pu_addc (a:=J) (b:=1) e24 rfl h342)<|lp (iv z341) (pu_move rfl)<|ln ?_
 obtain rfl:=os hb
 exact hK23 m24' _ _ (Nat.lt_succ_self _) ⟨z323,z341,(g++([D]:List (List (Int×Bool)))),G,x,a0,A335,(g++([D]:List (List (Int×Bool)))).length,c336,S,G.length,T,e1,e2,e6,e7,e8,rfl,e22,e23,rfl,(chk_rng h324),(chk_rng h342),b3,hC.sE [1,2,3,4,5,6,7,10],lN hl0⟩
 replace hb:=tf hq326 hb
 refine rg<|lp (.pointer (some ((⟨g9,0,none⟩:Addr).add 2))) (pu_field (sz:=1) underlying77 rfl sizeOf3 (by decide) rfl e7)<|lv (iv x) (ld_fld (hC.bx (i:=3) rfl) isAgg3 rfl rfl) ?_
 obtain ⟨z343,h344,hb⟩:=bd hb
 refine lp (iv z343) (pu_addc (a:=x) (b:=1) rfl rfl h344)<|lp (.pointer (some ((⟨g9,0,none⟩:Addr).add 2))) (pu_field (sz:=1) underlying77 rfl sizeOf3 (by decide) rfl e7)<|lex.sk (hC.setf (i:=3) (k:=2) (v:=iv z343) rfl sizeOf3 rfl rfl rfl rfl) ?_
 rintro w345 ⟨hC,hF⟩
 refine ln (hK31 _ _ ?_)
 refine rg ?_
 obtain ⟨z346,h347,hb⟩:=bd hb
 refine lp (iv z346) (pu_addc (a:=J) (b:=1) e24 rfl h347)<|lp (iv z346) (pu_move rfl)<|ln ?_
 obtain rfl:=os hb
 exact hK23 m24' _ _ (Nat.lt_succ_self _) ⟨z323,z346,g,G,z343,a0,l,g.length,o,S,G.length,T,e1,e2,e6,e7,e8,rfl,e22,e23,rfl,(chk_rng h324),(chk_rng h347),(chk_rng h344),hC.sE [0,1,2,3,4,5,6,9],lN hl0⟩
 replace hb:=tf hq30 hb
 refine Wc.exit rfl ?_
 obtain rfl:=os hb
 obtain rfl:=(lX hl0).symm
 exact hK22 _ _ ⟨Z,J,g,K,x,b2,l,g.length,o,N,K.length,P,e6,e7,c7,d0,b3,hC.sE [2,3,4,5],hbK0⟩
 clear hb hC hl0
 rintro E349 w348 ⟨Z,J,g,K,x,b2,l,a3,o,N,a4,P,e6,e7,c7,d0,b3,hC,hb⟩
 subst hf21
 obtain ⟨rfl,d3,d4⟩:=(hC.ow (i:=2) rfl).sl_len
 obtain ⟨rfl,d5,d6⟩:=(hC.ow (i:=3) rfl).sl_len
 refine hK17 _ _<|Wc.seq fun _ hK350=>rg<|lv (.agg #[.slice l g.length o,.slice N K.length P,iv x]) (ld_blk (hC.bx (i:=1) rfl) isAgg77 sizeOf77 e7)<|lex.sk (hC.seta (i:=0) (ds:=[.slice l g.length o,.slice N K.length P,iv x]) rfl type77 rfl rfl rfl e6 rfl) ?_
 rintro w351 ⟨hC,hF⟩
 refine ln (hK350 _ _ ?_)
 obtain rfl:=os hb
 refine Wc.ret (hKR _ _ ?_)
 refine ⟨_,res1 results55 ⟨_,e6,loadVar_blk (hC.bx (i:=0) rfl) isAgg77 sizeOf77⟩,_,rfl,l,g.length,o,N,K.length,P,rfl,b3,hC.sE [2,3]⟩
end Go.Proofs.Yteajmbanlohncaa
