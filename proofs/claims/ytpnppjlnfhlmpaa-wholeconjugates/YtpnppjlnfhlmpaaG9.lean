import Derived.Test.YtpnppjlnfhlmpaaS
import Derived.Test.YtpnppjlnfhlmpaaG1
import Derived.Test.YtpnppjlnfhlmpaaG4
import Derived.Test.YtpnppjlnfhlmpaaG7
import Derived.Test.YtpnppjlnfhlmpaaG8
set_option linter.all false
namespace Go.Proofs.Ytpnppjlnfhlmpaa
open Ev Try
set_option maxRecDepth 100000
set_option maxHeartbeats 4000000
theorem qhn (n:Nat) {w:World} {O0:List Nat} (hO: ∀k∈O0,k<w.heap.size) {f:Option Addr} {o g:Nat} {c:List Int} (p:Rep O0 w (.sl si) [.slice f o g] c) {h:Option Addr} {q j:Nat} {d:List Int} (s:Rep O0 w (.sl si) [.slice h q j] d) {l:Int} (t:I64 l) {a:Nat} {b:Int} (m:I64 b) (hio:Tk O0 w [.box a 3 [iv b]]) {r:(List Int)×(List Int)×Int} (hb:F.qda n c d l b=some r):
    Calls prog 50 #[.agg #[.slice f o g,.slice h q j,iv l],.func (.func 51) #[] #[pg a]] w fun e w'=> ∃v,e=.returned v∧∃(A0:Option Addr) (m0 c0:Nat) (A1:Option Addr) (m1 c1:Nat),v=.agg #[.slice A0 m0 c0,.slice A1 m1 c1,iv r.2.2]∧I64 r.2.2∧Cx (fun k=>k∈blocks [.box a 3 [iv b]]) O0 w w' [.own 3 si (.slice A0 m0 c0) r.1,.own 3 si (.slice A1 m1 c1) r.2.1,.box a 3 [iv b]]:=by
 unfold F.qda at hb
 have hC:=Cx.startTk hO hio
 have hsub:=hio.2.2
 replace hC:=hC.argTk (by first | exact hsub | exact fun k hk=>hsub k (by simpa [blocks,Fact.blk] using hk)) p
 replace hC:=hC.argTk (by first | exact hsub | exact fun k hk=>hsub k (by simpa [blocks,Fact.blk] using hk)) s
 clear hO
 obtain ⟨rfl,u,x⟩:=p.qae
 obtain ⟨rfl,y,z⟩:=s.qae
 clear hio hsub
 obtain ⟨I,hI,hC⟩: ∃I:Nat→Prop,I=(fun k=>k∈blocks [.box a 3 [iv b]])∧Cx I O0 w w ([.ro (.sl si) [.slice h d.length j] d,.ro (.sl si) [.slice f c.length g] c,.box a 3 [iv b]]):=⟨_,rfl,hC⟩
 refine qao func50 rfl (by rw [ntmps50]; exact nb rfl) fun KR hKR=>?_
 refine Wc.seq fun _ hK4=>rg<|lex.op (hC.box (cs:=[.slice f c.length g,.slice h d.length j,iv l]) rfl rfl) ?_
 rintro _ w6 ⟨g5,rfl,hC,hF,-⟩
 refine lex.op (hC.box (cs:=[.func (.func 51) #[] #[pg a]]) rfl rfl) ?_
 rintro _ w9 ⟨g8,rfl,hC,hF,-⟩
 refine lex.op (hC.alloc (cs:=[.slice none 0 0,.slice none 0 0,iv 0]) zeroValue32 rfl) ?_
 rintro _ w12 ⟨g11,rfl,hC,hF,-⟩
 refine ln (hK4 _ _ ?_)
 refine Wc.seq fun _ hK14=>rg<|lp (.func (.func 56) #[] #[pg g8,pg g5]) (qga rfl)<|lp (.func (.func 56) #[] #[pg g8,pg g5]) (qab rfl)<|ln (hK14 _ _ ?_)
 refine Wc.seq fun _ hK15=>rg<|lv (.agg #[.slice f c.length g,.slice h d.length j,iv l]) (qaq (hC.bx (i:=2) rfl) isAgg32 sizeOf32 rfl)<|lp (.func (.func 56) #[] #[pg g8,pg g5]) (qaa rfl)<|lp (.func (.func 58) #[] #[pg g8]) (qga rfl) ?_
 replace hC:Cx I O0 w w12 ([.box g8 68 [.func (.func 51) #[] #[pg a]],.box a 3 [iv b],.box g5 32 [.slice f c.length g,.slice h d.length j,iv l]]++[.box g11 32 [.slice none 0 0,.slice none 0 0,iv 0],.ro (.sl si) [.slice h d.length j] d,.ro (.sl si) [.slice f c.length g] c]):=hC.sE [1,5,2,0,3,4]
 obtain ⟨y16,h17,hb⟩:=bd hb
 refine lex.cl (⟨_,_,qam (vs:=[.agg #[.slice f c.length g,.slice h d.length j,iv l],.func (.func 56) #[] #[pg g8,pg g5],.func (.func 58) #[] #[pg g8]]) call57 rfl rfl rfl,qfy n hC.lt (hC.rd (i:=5) rfl) (hC.rd (i:=4) rfl) t m (hC.rd (i:=5) rfl) (hC.rd (i:=4) rfl) t hC.give h17⟩) ?_
 rintro _ w27 ⟨A18,m19,c20,A22,m23,c24,rfl,hr26,hK⟩
 replace hC:=hC.back hK
 clear hK
 obtain ⟨rfl,hl28,hc29⟩:=(hC.ow (i:=0) rfl).qae
 obtain ⟨rfl,hl30,hc31⟩:=(hC.ow (i:=1) rfl).qae
 refine lex.sk (hC.seta (i:=5) (ds:=[.slice A18 y16.1.length c20,.slice A22 y16.2.1.length c24,iv y16.2.2]) rfl type32 rfl rfl rfl rfl rfl) ?_
 rintro w32 ⟨hC,hF⟩
 refine ln (hK15 _ _ ?_)
 obtain rfl:=os hb
 subst hI
 refine Wc.ret (hKR _ _ ?_)
 refine ⟨_,res1 results50 ⟨_,rfl,qai (hC.bx (i:=5) rfl) isAgg32 sizeOf32⟩,_,rfl,A18,y16.1.length,c20,A22,y16.2.1.length,c24,rfl,hr26,hC.sE [0,1,3]⟩

theorem mirror_Switch_ok (n:Nat) {w:World} {O0:List Nat} (hO: ∀k∈O0,k<w.heap.size) {f:Option Addr} {u g:Nat} {d:List Int} (x:Rep O0 w (.sl si) [.slice f u g] d) {h:Option Addr} {y l:Nat} {o:List Int} (z:Rep O0 w (.sl si) [.slice h y l] o) {p:Int} (B:I64 p) {c:Int} (s:I64 c) {r:(List Int)×(List Int)×Int×Int} (hb:F.qgq n d o p c=some r):
    Calls prog 38 #[.agg #[.slice f u g,.slice h y l,iv p],iv c] w fun e w'=> ∃v,e=.returned v∧∃(A0:Option Addr) (m0 c0:Nat) (A1:Option Addr) (m1 c1:Nat),v=.tuple #[.agg #[.slice A0 m0 c0,.slice A1 m1 c1,iv r.2.2.1],iv r.2.2.2]∧I64 r.2.2.1∧I64 r.2.2.2∧Cx (fun _=>False) O0 w w' [.own 3 si (.slice A0 m0 c0) r.1,.own 3 si (.slice A1 m1 c1) r.2.1]:=by
 unfold F.qgq at hb
 have hC:=Cx.start hO
 replace hC:=hC.arg rfl x
 replace hC:=hC.arg rfl z
 clear hO
 obtain ⟨rfl,C,D⟩:=x.qae
 obtain ⟨rfl,G,H⟩:=z.qae
 refine qao func38 rfl (by rw [ntmps38]; exact nb rfl) fun KR hKR=>?_
 refine Wc.seq fun _ hK3=>rg<|lex.op (hC.box (cs:=[.slice f d.length g,.slice h o.length l,iv p]) rfl rfl) ?_
 rintro _ w5 ⟨g4,rfl,hC,hF,-⟩
 refine lex.op (hC.box (cs:=[iv c]) rfl rfl) ?_
 rintro _ w8 ⟨g7,rfl,hC,hF,-⟩
 refine lex.op (hC.alloc (cs:=[.slice none 0 0,.slice none 0 0,iv 0]) zeroValue32 rfl) ?_
 rintro _ w11 ⟨g10,rfl,hC,hF,-⟩
 refine lp (iv 0) (qab rfl)<|ln (hK3 _ _ ?_)
 refine Wc.seq fun _ hK13=>?_
 refine Wc.seq fun _ hK14=>rg<|lv (.agg #[.slice f d.length g,.slice h o.length l,iv p]) (qaq (hC.bx (i:=2) rfl) isAgg32 sizeOf32 rfl) ?_
 obtain ⟨y15,h16,hb⟩:=bd hb
 refine lex.cl (⟨_,_,qam (vs:=[.agg #[.slice f d.length g,.slice h o.length l,iv p]]) call11 rfl rfl rfl,qdm n hC.lt (hC.rd (i:=4) rfl) (hC.rd (i:=3) rfl) B h16⟩) ?_
 rintro _ w17 ⟨rfl,hK⟩
 replace hC:=hC.merge hK
 clear hK
 refine lp (.bool (!y15)) (qbt (q:=y15) rfl)<|ln (hK14 _ _ ?_)
 refine Wc.cond (t:=(!y15)) (rfl) (fun hq18=>?_) (fun hq18=>?_)
 replace hb:=tt hq18 hb
 refine Wc.seq fun _ hK19=>rg<|lp (.agg #[.slice none 0 0,.slice none 0 0,iv 0]) (qat (places:=[(0,1),(1,1),(2,1)]) (pv:=[]) type32 underlying32 rfl (qag type22 (qag type22 (qag type3 qbb rfl rfl) rfl rfl) rfl rfl) rfl (by simp [Instr.fill,Value.cells]))<|lex.sk (hC.seta (i:=0) (ds:=[.slice none 0 0,.slice none 0 0,iv 0]) rfl type32 rfl rfl rfl rfl rfl) ?_
 rintro w20 ⟨hC,hF⟩
 refine lp (iv 1) (qab rfl)<|ln (hK19 _ _ ?_)
 replace hC:=hC.nil 3 si
 replace hC:=hC.nil 3 si
 obtain rfl:=os hb
 refine Wc.ret (hKR _ _ ?_)
 refine ⟨_,res2 results38 ⟨_,rfl,qai (hC.bx (i:=2) rfl) isAgg32 sizeOf32⟩ (tV (iv 1) rfl),_,rfl,none,0,0,none,0,0,rfl,(show I64 0 from by unfold I64; omega),(show I64 1 from by unfold I64; omega),hC.sE [1,0]⟩
 replace hb:=tf hq18 hb
 refine Wc.skip (hK13 _ _ ?_)
 refine Wc.seq fun _ hK23=>?_
 refine Wc.seq fun _ hK24=>rg<|lv (iv c) (qaw isAgg3 rfl ((hC.bx (i:=1) rfl).cell (j:=0) rfl))<|lp (.bool (decide (c<0))) (qbj (k:=.i64) (a:=c) (b:=0) rfl rfl)<|lp (.bool (decide (c<0))) (qaa rfl) ?_
 rcases bS (decide (c<0)) with hq25 | hq25
 replace hb:=tt hq25 hb
 refine gs rfl rfl (decide (c<0)) rfl hq25<|gs rfl rfl (decide (c<0)) rfl hq25<|gs rfl rfl (decide (c<0)) rfl hq25<|gs rfl rfl (decide (c<0)) rfl hq25<|gs rfl rfl (decide (c<0)) rfl hq25<|lp (.bool true) (qap (q:=(decide (c<0))) rfl hq25 rfl)<|ln (hK24 _ _ ?_)
 refine Wc.fresh fun E26 hE=>?_
 have e2:E26 2=pg g4:=cg hE 2 rfl
 have e3:E26 3=pg g7:=cg hE 3 rfl
 have e4:E26 4=pg g10:=cg hE 4 rfl
 have e5:E26 5=iv 0:=cg hE 5 rfl
 have e18:E26 18=.bool true:=cg hE 18 rfl
 clear hE
 refine Wc.cond_true (e18) ?_
 refine Wc.seq fun _ hK27=>rg<|lp (.agg #[.slice none 0 0,.slice none 0 0,iv 0]) (qat (places:=[(0,1),(1,1),(2,1)]) (pv:=[]) type32 underlying32 rfl (qag type22 (qag type22 (qag type3 qbb rfl rfl) rfl rfl) rfl rfl) rfl (by simp [Instr.fill,Value.cells]))<|lex.sk (hC.seta (i:=0) (ds:=[.slice none 0 0,.slice none 0 0,iv 0]) rfl type32 rfl rfl rfl e4 rfl) ?_
 rintro w28 ⟨hC,hF⟩
 refine lp (iv 2) (qab rfl)<|ln (hK27 _ _ ?_)
 replace hC:=hC.nil 3 si
 replace hC:=hC.nil 3 si
 obtain rfl:=os hb
 refine Wc.ret (hKR _ _ ?_)
 refine ⟨_,res2 results38 ⟨_,e4,qai (hC.bx (i:=2) rfl) isAgg32 sizeOf32⟩ (tV (iv 2) rfl),_,rfl,none,0,0,none,0,0,rfl,(show I64 0 from by unfold I64; omega),(show I64 2 from by unfold I64; omega),hC.sE [1,0]⟩
 replace hb:=tf hq25 hb
 refine gv rfl rfl (decide (c<0)) rfl hq25 (iv c) (qaw isAgg3 rfl ((hC.bx (i:=1) rfl).cell (j:=0) rfl))<|gp rfl rfl (decide (c<0)) rfl hq25 (.pointer (some ((⟨g4,0,none⟩:Addr).add 0))) (qaf (sz:=1) underlying32 rfl sizeOf22 (by decide) rfl rfl)<|gv rfl rfl (decide (c<0)) rfl hq25 (.slice f d.length g) (qal (hC.bx (i:=2) rfl) isAgg22 rfl rfl)<|gp rfl rfl (decide (c<0)) rfl hq25 (iv (d.length:Int)) (qay (A:=f) (n:=d.length) (m:=g) underlying22 rfl)<|gp rfl rfl (decide (c<0)) rfl hq25 (.bool (decide ((d.length:Int)≤c))) (pu_geq (k:=.i64) (a:=c) (b:=(d.length:Int)) rfl rfl)<|lp (.bool (decide ((d.length:Int)≤c))) (qak (q:=(decide (c<0))) rfl hq25 rfl)<|ln (hK24 _ _ ?_)
 refine Wc.fresh fun E31 hE=>?_
 have e2:E31 2=pg g4:=cg hE 2 rfl
 have e3:E31 3=pg g7:=cg hE 3 rfl
 have e4:E31 4=pg g10:=cg hE 4 rfl
 have e5:E31 5=iv 0:=cg hE 5 rfl
 have e18:E31 18=.bool (decide ((d.length:Int)≤c)):=cg hE 18 rfl
 clear hE
 refine Wc.cond (t:=(decide ((d.length:Int)≤c))) (e18) (fun hq32=>?_) (fun hq32=>?_)
 replace hb:=tt hq32 hb
 refine Wc.seq fun _ hK33=>rg<|lp (.agg #[.slice none 0 0,.slice none 0 0,iv 0]) (qat (places:=[(0,1),(1,1),(2,1)]) (pv:=[]) type32 underlying32 rfl (qag type22 (qag type22 (qag type3 qbb rfl rfl) rfl rfl) rfl rfl) rfl (by simp [Instr.fill,Value.cells]))<|lex.sk (hC.seta (i:=0) (ds:=[.slice none 0 0,.slice none 0 0,iv 0]) rfl type32 rfl rfl rfl e4 rfl) ?_
 rintro w34 ⟨hC,hF⟩
 refine lp (iv 2) (qab rfl)<|ln (hK33 _ _ ?_)
 replace hC:=hC.nil 3 si
 replace hC:=hC.nil 3 si
 obtain rfl:=os hb
 refine Wc.ret (hKR _ _ ?_)
 refine ⟨_,res2 results38 ⟨_,e4,qai (hC.bx (i:=2) rfl) isAgg32 sizeOf32⟩ (tV (iv 2) rfl),_,rfl,none,0,0,none,0,0,rfl,(show I64 0 from by unfold I64; omega),(show I64 2 from by unfold I64; omega),hC.sE [1,0]⟩
 replace hb:=tf hq32 hb
 refine Wc.skip (hK23 _ _ ?_)
 refine Wc.seq fun _ hK37=>rg<|lv (.agg #[.slice f d.length g,.slice h o.length l,iv p]) (qaq (hC.bx (i:=2) rfl) isAgg32 sizeOf32 e2)<|lp (.func (.func 51) #[] #[pg g7]) (qga (map_of (m2_cons e3 m2_nil))) ?_
 replace hC:Cx (fun _=>False) O0 w w17 ([.box g7 3 [iv c]]++[.box g10 32 [.slice none 0 0,.slice none 0 0,iv 0],.box g4 32 [.slice f d.length g,.slice h o.length l,iv p],.ro (.sl si) [.slice h o.length l] o,.ro (.sl si) [.slice f d.length g] d]):=hC.sE [1,0,2,3,4]
 obtain ⟨y38,h39,hb⟩:=bd hb
 refine lex.cl (⟨_,_,qam (vs:=[.agg #[.slice f d.length g,.slice h o.length l,iv p],.func (.func 51) #[] #[pg g7]]) call50 rfl rfl rfl,qhn n hC.lt (hC.rd (i:=4) rfl) (hC.rd (i:=3) rfl) B s hC.give h39⟩) ?_
 rintro _ w49 ⟨A40,m41,c42,A44,m45,c46,rfl,hr48,hK⟩
 replace hC:=hC.back hK
 clear hK
 obtain ⟨rfl,hl50,hc51⟩:=(hC.ow (i:=0) rfl).qae
 obtain ⟨rfl,hl52,hc53⟩:=(hC.ow (i:=1) rfl).qae
 refine lex.sk (hC.seta (i:=3) (ds:=[.slice A40 y38.1.length c42,.slice A44 y38.2.1.length c46,iv y38.2.2]) rfl type32 rfl rfl rfl e4 rfl) ?_
 rintro w54 ⟨hC,hF⟩
 refine lp (iv 0) (qab rfl)<|ln (hK37 _ _ ?_)
 obtain rfl:=os hb
 refine Wc.ret (hKR _ _ ?_)
 refine ⟨_,res2 results38 ⟨_,e4,qai (hC.bx (i:=3) rfl) isAgg32 sizeOf32⟩ (tV (iv 0) rfl),_,rfl,A40,y38.1.length,c42,A44,y38.2.1.length,c46,rfl,hr48,(show I64 0 from by unfold I64; omega),hC.sE [0,1]⟩

theorem conway_Resolve_ok (n:Nat) {w:World} {O0:List Nat} (hO: ∀k∈O0,k<w.heap.size) {c:Option Addr} {p d:Nat} {l:List Int} (q:Rep O0 w (.sl si) [.slice c p d] l) {f:Option Addr} {s h:Nat} {m:List Int} (u:Rep O0 w (.sl si) [.slice f s h] m) {j:Int} (o:I64 j) {r:(List Int)×(List Int)×Int×(List Int)×(List Int)×Int×Int×Int} (hb:F.qen n l m j=some r):
    Calls prog 20 #[.agg #[.slice c p d,.slice f s h,iv j]] w fun e w'=> ∃v,e=.returned v∧∃(A0:Option Addr) (m0 c0:Nat) (A1:Option Addr) (m1 c1:Nat) (A3:Option Addr) (m3 c3:Nat) (A4:Option Addr) (m4 c4:Nat),v=.tuple #[.agg #[.slice A0 m0 c0,.slice A1 m1 c1,iv r.2.2.1],.agg #[.slice A3 m3 c3,.slice A4 m4 c4,iv r.2.2.2.2.2.1],iv r.2.2.2.2.2.2.1,iv r.2.2.2.2.2.2.2]∧I64 r.2.2.1∧I64 r.2.2.2.2.2.1∧I64 r.2.2.2.2.2.2.1∧I64 r.2.2.2.2.2.2.2∧Cx (fun _=>False) O0 w w' [.own 3 si (.slice A0 m0 c0) r.1,.own 3 si (.slice A1 m1 c1) r.2.1,.own 3 si (.slice A3 m3 c3) r.2.2.2.1,.own 3 si (.slice A4 m4 c4) r.2.2.2.2.1]:=by
 unfold F.qen at hb
 have hC:=Cx.start hO
 replace hC:=hC.arg rfl q
 replace hC:=hC.arg rfl u
 clear hO
 obtain ⟨rfl,x,y⟩:=q.qae
 obtain ⟨rfl,z,A⟩:=u.qae
 refine qao func20 rfl (by rw [ntmps20]; exact nb rfl) fun KR hKR=>?_
 refine Wc.seq fun _ hK3=>rg<|lex.op (hC.box (cs:=[.slice c l.length d,.slice f m.length h,iv j]) rfl rfl) ?_
 rintro _ w5 ⟨g4,rfl,hC,hF,-⟩
 refine lex.op (hC.alloc (cs:=[.slice none 0 0,.slice none 0 0,iv 0]) zeroValue32 rfl) ?_
 rintro _ w8 ⟨g7,rfl,hC,hF,-⟩
 refine lex.op (hC.alloc (cs:=[.slice none 0 0,.slice none 0 0,iv 0]) zeroValue32 rfl) ?_
 rintro _ w11 ⟨g10,rfl,hC,hF,-⟩
 refine lp (iv 0) (qab rfl)<|lp (iv 0) (qab rfl)<|ln (hK3 _ _ ?_)
 refine Wc.seq fun _ hK13=>rg<|lv (.agg #[.slice c l.length d,.slice f m.length h,iv j]) (qaq (hC.bx (i:=2) rfl) isAgg32 sizeOf32 rfl) ?_
 obtain ⟨y14,h15,hb⟩:=bd hb
 refine lex.cl (⟨_,_,qam (vs:=[.agg #[.slice c l.length d,.slice f m.length h,iv j]]) call36 rfl rfl rfl,conway_Descending_ok n hC.lt (hC.rd (i:=4) rfl) (hC.rd (i:=3) rfl) o h15⟩) ?_
 rintro _ w17 ⟨rfl,hr16,hK⟩
 replace hC:=hC.merge hK
 clear hK
 refine lp (.tuple #[iv y14.1,.bool y14.2]) (qaa rfl)<|lp (iv y14.1) (qav rfl rfl)<|lp (.bool y14.2) (qav rfl rfl)<|lp (iv y14.1) (qab rfl)<|lp (.bool y14.2) (qab rfl)<|ln (hK13 _ _ ?_)
 refine Wc.fresh fun E18 hE=>?_
 have e1:E18 1=pg g4:=cg hE 1 rfl
 have e2:E18 2=pg g7:=cg hE 2 rfl
 have e3:E18 3=pg g10:=cg hE 3 rfl
 have e4:E18 4=iv y14.1:=cg hE 4 rfl
 have e5:E18 5=iv 0:=cg hE 5 rfl
 have e6:E18 6=.bool y14.2:=cg hE 6 rfl
 clear hE
 refine Wc.seq fun _ hK19=>?_
 refine Wc.seq fun _ hK20=>rg<|lp _ (qaa e6)<|ln (hK20 _ _ ?_)
 refine Wc.cond (t:=y14.2) (rfl) (fun hq21=>?_) (fun hq21=>?_)
 replace hb:=tt hq21 hb
 refine Wc.seq fun _ hK22=>?_
 refine Wc.regionPlan [1048589,1048590] (frm [1048589,1048590] [.box g7 32 [.slice none 0 0,.slice none 0 0,iv 0],.box g10 32 [.slice none 0 0,.slice none 0 0,iv 0]] ([]:List Fact)) (.alt (chainP [0] (.alt (chainP [1] (chainP [2,3,4,5] .done)) (chainP [2] (chainP [1,3,4,5] .done)))) (chainP [1] (chainP [0,2,3,4,5] .done))) (fun _=>rfl) mixed (by decide+kernel) (by decide+kernel) fun w24 hw23=>?_
 replace hC:=hC.step (Fr.qcx hw23)
 have hM:=Fr.refl (fun k=>k∈blocks [.box g7 32 [.slice none 0 0,.slice none 0 0,iv 0],.box g10 32 [.slice none 0 0,.slice none 0 0,iv 0]]) w24
 clear hw23
 have hS:=hC
 have hBf9: ∀g,g<w24.heap.size→some g7=some g→g∈blocks [.box g7 32 [.slice none 0 0,.slice none 0 0,iv 0],.box g10 32 [.slice none 0 0,.slice none 0 0,iv 0]]:=fun g _ hg=>Option.some.inj hg▸qcg (i:=0) rfl
 have hVf9:g7<w24.heap.size→g7∈blocks [.box g7 32 [.slice none 0 0,.slice none 0 0,iv 0],.box g10 32 [.slice none 0 0,.slice none 0 0,iv 0]]:=fun _=>qcg (i:=0) rfl
 have hBf12: ∀g,g<w24.heap.size→some g10=some g→g∈blocks [.box g7 32 [.slice none 0 0,.slice none 0 0,iv 0],.box g10 32 [.slice none 0 0,.slice none 0 0,iv 0]]:=fun g _ hg=>Option.some.inj hg▸qcg (i:=1) rfl
 have hVf12:g10<w24.heap.size→g10∈blocks [.box g7 32 [.slice none 0 0,.slice none 0 0,iv 0],.box g10 32 [.slice none 0 0,.slice none 0 0,iv 0]]:=fun _=>qcg (i:=1) rfl
 have hD:Fr (fun k=>k∈blocks ([.box g7 32 [.slice none 0 0,.slice none 0 0,iv 0],.box g10 32 [.slice none 0 0,.slice none 0 0,iv 0]]++([]:List Fact))) w24 w24:=hM.wide
 have hUf9:g7<w24.heap.size→g7∈blocks ([.box g7 32 [.slice none 0 0,.slice none 0 0,iv 0],.box g10 32 [.slice none 0 0,.slice none 0 0,iv 0]]++([]:List Fact)):=fun _=>qcg (i:=0) rfl
 have hUf12:g10<w24.heap.size→g10∈blocks ([.box g7 32 [.slice none 0 0,.slice none 0 0,iv 0],.box g10 32 [.slice none 0 0,.slice none 0 0,iv 0]]++([]:List Fact)):=fun _=>qcg (i:=1) rfl
 refine qas ?_ ?_
 refine qac ?_
 refine mixE.soft (v:=.agg #[.slice none 0 0,.slice none 0 0,iv 0]) hM (qaq (hC.bx (i:=1) rfl) isAgg32 sizeOf32 e2) hM<|mixE.nil ?_
 refine qas ?_ ?_
 refine qac ?_
 refine mixE.soft (v:=.agg #[.slice none 0 0,.slice none 0 0,iv 0]) hM (qaq (hC.bx (i:=0) rfl) isAgg32 sizeOf32 e3) hM<|mixE.nil ?_
 refine qac ?_
 refine mixE.sk hD (hC.seta (i:=1) (ds:=[.slice none 0 0,.slice none 0 0,iv 0]) rfl type32 rfl rfl rfl e2 rfl) ?_
 rintro w25 ⟨hC,hF⟩
 replace hD:=hD.besideG hUf9 hF
 replace hM:=hM.besideG hVf9 hF
 clear hF
 refine ⟨hD,?_⟩
 refine mixE.sk hD (hC.seta (i:=0) (ds:=[.slice none 0 0,.slice none 0 0,iv 0]) rfl type32 rfl rfl rfl e3 rfl) ?_
 rintro w26 ⟨hC,hF⟩
 replace hD:=hD.besideG hUf12 hF
 replace hM:=hM.besideG hVf12 hF
 clear hF
 refine ⟨hD,?_⟩
 refine mp (iv (-1)) (qab rfl)<|mp (iv 12) (qab rfl)<|mixE.nil ?_
 clear hS hM
 clear hD
 refine hK22 _ _ ?_
 replace hC:=hC.nil 3 si
 replace hC:=hC.nil 3 si
 replace hC:=hC.nil 3 si
 replace hC:=hC.nil 3 si
 obtain rfl:=os hb
 refine Wc.ret (hKR _ _ ?_)
 refine ⟨_,res4 results20 ⟨_,e2,qai (hC.bx (i:=5) rfl) isAgg32 sizeOf32⟩ ⟨_,e3,qai (hC.bx (i:=4) rfl) isAgg32 sizeOf32⟩ (tV (iv (-1)) rfl) (tV (iv 12) rfl),_,rfl,none,0,0,none,0,0,none,0,0,none,0,0,rfl,(show I64 0 from by unfold I64; omega),(show I64 0 from by unfold I64; omega),(show I64 (-1) from by unfold I64; omega),(show I64 12 from by unfold I64; omega),hC.sE [3,2,1,0]⟩
 refine qac ?_
 refine mixE.sk hD (hC.seta (i:=1) (ds:=[.slice none 0 0,.slice none 0 0,iv 0]) rfl type32 rfl rfl rfl e2 rfl) ?_
 rintro w31 ⟨hC,hF⟩
 replace hD:=hD.besideG hUf9 hF
 replace hM:=hM.besideG hVf9 hF
 clear hF
 refine ⟨hD,?_⟩
 refine mixE.nil ?_
 refine qac ?_
 refine mixE.soft (v:=.agg #[.slice none 0 0,.slice none 0 0,iv 0]) hM (qaq (hC.bx (i:=0) rfl) isAgg32 sizeOf32 e3) hM<|mixE.sk hD (hC.seta (i:=0) (ds:=[.slice none 0 0,.slice none 0 0,iv 0]) rfl type32 rfl rfl rfl e3 rfl) ?_
 rintro w32 ⟨hC,hF⟩
 replace hD:=hD.besideG hUf12 hF
 replace hM:=hM.besideG hVf12 hF
 clear hF
 refine ⟨hD,?_⟩
 refine mp (iv (-1)) (qab rfl)<|mp (iv 12) (qab rfl)<|mixE.nil ?_
 clear hS hM
 clear hD
 refine hK22 _ _ ?_
 replace hC:=hC.nil 3 si
 replace hC:=hC.nil 3 si
 replace hC:=hC.nil 3 si
 replace hC:=hC.nil 3 si
 obtain rfl:=os hb
 refine Wc.ret (hKR _ _ ?_)
 refine ⟨_,res4 results20 ⟨_,e2,qai (hC.bx (i:=5) rfl) isAgg32 sizeOf32⟩ ⟨_,e3,qai (hC.bx (i:=4) rfl) isAgg32 sizeOf32⟩ (tV (iv (-1)) rfl) (tV (iv 12) rfl),_,rfl,none,0,0,none,0,0,none,0,0,none,0,0,rfl,(show I64 0 from by unfold I64; omega),(show I64 0 from by unfold I64; omega),(show I64 (-1) from by unfold I64; omega),(show I64 12 from by unfold I64; omega),hC.sE [3,2,1,0]⟩
 refine qac ?_
 refine mixE.soft (v:=.agg #[.slice none 0 0,.slice none 0 0,iv 0]) hM (qaq (hC.bx (i:=0) rfl) isAgg32 sizeOf32 e3) hM<|mixE.nil ?_
 refine qac ?_
 refine mixE.soft (v:=.agg #[.slice none 0 0,.slice none 0 0,iv 0]) hM (qaq (hC.bx (i:=1) rfl) isAgg32 sizeOf32 e2) hM<|mixE.sk hD (hC.seta (i:=1) (ds:=[.slice none 0 0,.slice none 0 0,iv 0]) rfl type32 rfl rfl rfl e2 rfl) ?_
 rintro w37 ⟨hC,hF⟩
 replace hD:=hD.besideG hUf9 hF
 replace hM:=hM.besideG hVf9 hF
 clear hF
 refine ⟨hD,?_⟩
 refine mixE.sk hD (hC.seta (i:=0) (ds:=[.slice none 0 0,.slice none 0 0,iv 0]) rfl type32 rfl rfl rfl e3 rfl) ?_
 rintro w38 ⟨hC,hF⟩
 replace hD:=hD.besideG hUf12 hF
 replace hM:=hM.besideG hVf12 hF
 clear hF
 refine ⟨hD,?_⟩
 refine mp (iv (-1)) (qab rfl)<|mp (iv 12) (qab rfl)<|mixE.nil ?_
 clear hS hM
 clear hD
 refine hK22 _ _ ?_
 replace hC:=hC.nil 3 si
 replace hC:=hC.nil 3 si
 replace hC:=hC.nil 3 si
 replace hC:=hC.nil 3 si
 obtain rfl:=os hb
 refine Wc.ret (hKR _ _ ?_)
 refine ⟨_,res4 results20 ⟨_,e2,qai (hC.bx (i:=5) rfl) isAgg32 sizeOf32⟩ ⟨_,e3,qai (hC.bx (i:=4) rfl) isAgg32 sizeOf32⟩ (tV (iv (-1)) rfl) (tV (iv 12) rfl),_,rfl,none,0,0,none,0,0,none,0,0,none,0,0,rfl,(show I64 0 from by unfold I64; omega),(show I64 0 from by unfold I64; omega),(show I64 (-1) from by unfold I64; omega),(show I64 12 from by unfold I64; omega),hC.sE [3,2,1,0]⟩
 replace hb:=tf hq21 hb
 refine Wc.skip (hK19 _ _ ?_)
 refine Wc.seq fun _ hK43=>?_
 refine Wc.seq fun _ hK44=>rg<|lp _ (qaa e4)<|lp (.bool (decide (y14.1<0))) (qbj (k:=.i64) (a:=y14.1) (b:=0) rfl rfl)<|ln (hK44 _ _ ?_)
 refine Wc.cond (t:=(decide (y14.1<0))) (rfl) (fun hq45=>?_) (fun hq45=>?_)
 replace hb:=tt hq45 hb
 refine Wc.seq fun _ hK46=>?_
 refine Wc.regionPlan [1048593,1048594] (frm [1048593,1048594] [.box g7 32 [.slice none 0 0,.slice none 0 0,iv 0],.box g10 32 [.slice none 0 0,.slice none 0 0,iv 0]] ([]:List Fact)) (.alt (chainP [0] (.alt (chainP [1] (chainP [2,3,4,5] .done)) (chainP [2] (chainP [1,3,4,5] .done)))) (chainP [1] (chainP [0,2,3,4,5] .done))) (fun _=>rfl) mixed (by decide+kernel) (by decide+kernel) fun w48 hw47=>?_
 replace hC:=hC.step (Fr.qcx hw47)
 have hM:=Fr.refl (fun k=>k∈blocks [.box g7 32 [.slice none 0 0,.slice none 0 0,iv 0],.box g10 32 [.slice none 0 0,.slice none 0 0,iv 0]]) w48
 clear hw47
 have hS:=hC
 have hBf9: ∀g,g<w48.heap.size→some g7=some g→g∈blocks [.box g7 32 [.slice none 0 0,.slice none 0 0,iv 0],.box g10 32 [.slice none 0 0,.slice none 0 0,iv 0]]:=fun g _ hg=>Option.some.inj hg▸qcg (i:=0) rfl
 have hVf9:g7<w48.heap.size→g7∈blocks [.box g7 32 [.slice none 0 0,.slice none 0 0,iv 0],.box g10 32 [.slice none 0 0,.slice none 0 0,iv 0]]:=fun _=>qcg (i:=0) rfl
 have hBf12: ∀g,g<w48.heap.size→some g10=some g→g∈blocks [.box g7 32 [.slice none 0 0,.slice none 0 0,iv 0],.box g10 32 [.slice none 0 0,.slice none 0 0,iv 0]]:=fun g _ hg=>Option.some.inj hg▸qcg (i:=1) rfl
 have hVf12:g10<w48.heap.size→g10∈blocks [.box g7 32 [.slice none 0 0,.slice none 0 0,iv 0],.box g10 32 [.slice none 0 0,.slice none 0 0,iv 0]]:=fun _=>qcg (i:=1) rfl
 have hD:Fr (fun k=>k∈blocks ([.box g7 32 [.slice none 0 0,.slice none 0 0,iv 0],.box g10 32 [.slice none 0 0,.slice none 0 0,iv 0]]++([]:List Fact))) w48 w48:=hM.wide
 have hUf9:g7<w48.heap.size→g7∈blocks ([.box g7 32 [.slice none 0 0,.slice none 0 0,iv 0],.box g10 32 [.slice none 0 0,.slice none 0 0,iv 0]]++([]:List Fact)):=fun _=>qcg (i:=0) rfl
 have hUf12:g10<w48.heap.size→g10∈blocks ([.box g7 32 [.slice none 0 0,.slice none 0 0,iv 0],.box g10 32 [.slice none 0 0,.slice none 0 0,iv 0]]++([]:List Fact)):=fun _=>qcg (i:=1) rfl
 refine qas ?_ ?_
 refine qac ?_
 refine mixE.soft (v:=.agg #[.slice none 0 0,.slice none 0 0,iv 0]) hM (qaq (hC.bx (i:=1) rfl) isAgg32 sizeOf32 e2) hM<|mixE.nil ?_
 refine qas ?_ ?_
 refine qac ?_
 refine mixE.soft (v:=.agg #[.slice none 0 0,.slice none 0 0,iv 0]) hM (qaq (hC.bx (i:=0) rfl) isAgg32 sizeOf32 e3) hM<|mixE.nil ?_
 refine qac ?_
 refine mixE.sk hD (hC.seta (i:=1) (ds:=[.slice none 0 0,.slice none 0 0,iv 0]) rfl type32 rfl rfl rfl e2 rfl) ?_
 rintro w49 ⟨hC,hF⟩
 replace hD:=hD.besideG hUf9 hF
 replace hM:=hM.besideG hVf9 hF
 clear hF
 refine ⟨hD,?_⟩
 refine mixE.sk hD (hC.seta (i:=0) (ds:=[.slice none 0 0,.slice none 0 0,iv 0]) rfl type32 rfl rfl rfl e3 rfl) ?_
 rintro w50 ⟨hC,hF⟩
 replace hD:=hD.besideG hUf12 hF
 replace hM:=hM.besideG hVf12 hF
 clear hF
 refine ⟨hD,?_⟩
 refine mp (iv (-1)) (qab rfl)<|mp (iv 1) (qab rfl)<|mixE.nil ?_
 clear hS hM
 clear hD
 refine hK46 _ _ ?_
 replace hC:=hC.nil 3 si
 replace hC:=hC.nil 3 si
 replace hC:=hC.nil 3 si
 replace hC:=hC.nil 3 si
 obtain rfl:=os hb
 refine Wc.ret (hKR _ _ ?_)
 refine ⟨_,res4 results20 ⟨_,e2,qai (hC.bx (i:=5) rfl) isAgg32 sizeOf32⟩ ⟨_,e3,qai (hC.bx (i:=4) rfl) isAgg32 sizeOf32⟩ (tV (iv (-1)) rfl) (tV (iv 1) rfl),_,rfl,none,0,0,none,0,0,none,0,0,none,0,0,rfl,(show I64 0 from by unfold I64; omega),(show I64 0 from by unfold I64; omega),(show I64 (-1) from by unfold I64; omega),(show I64 1 from by unfold I64; omega),hC.sE [3,2,1,0]⟩
 refine qac ?_
 refine mixE.sk hD (hC.seta (i:=1) (ds:=[.slice none 0 0,.slice none 0 0,iv 0]) rfl type32 rfl rfl rfl e2 rfl) ?_
 rintro w55 ⟨hC,hF⟩
 replace hD:=hD.besideG hUf9 hF
 replace hM:=hM.besideG hVf9 hF
 clear hF
 refine ⟨hD,?_⟩
 refine mixE.nil ?_
 refine qac ?_
 refine mixE.soft (v:=.agg #[.slice none 0 0,.slice none 0 0,iv 0]) hM (qaq (hC.bx (i:=0) rfl) isAgg32 sizeOf32 e3) hM<|mixE.sk hD (hC.seta (i:=0) (ds:=[.slice none 0 0,.slice none 0 0,iv 0]) rfl type32 rfl rfl rfl e3 rfl) ?_
 rintro w56 ⟨hC,hF⟩
 replace hD:=hD.besideG hUf12 hF
 replace hM:=hM.besideG hVf12 hF
 clear hF
 refine ⟨hD,?_⟩
 refine mp (iv (-1)) (qab rfl)<|mp (iv 1) (qab rfl)<|mixE.nil ?_
 clear hS hM
 clear hD
 refine hK46 _ _ ?_
 replace hC:=hC.nil 3 si
 replace hC:=hC.nil 3 si
 replace hC:=hC.nil 3 si
 replace hC:=hC.nil 3 si
 obtain rfl:=os hb
 refine Wc.ret (hKR _ _ ?_)
 refine ⟨_,res4 results20 ⟨_,e2,qai (hC.bx (i:=5) rfl) isAgg32 sizeOf32⟩ ⟨_,e3,qai (hC.bx (i:=4) rfl) isAgg32 sizeOf32⟩ (tV (iv (-1)) rfl) (tV (iv 1) rfl),_,rfl,none,0,0,none,0,0,none,0,0,none,0,0,rfl,(show I64 0 from by unfold I64; omega),(show I64 0 from by unfold I64; omega),(show I64 (-1) from by unfold I64; omega),(show I64 1 from by unfold I64; omega),hC.sE [3,2,1,0]⟩
 refine qac ?_
 refine mixE.soft (v:=.agg #[.slice none 0 0,.slice none 0 0,iv 0]) hM (qaq (hC.bx (i:=0) rfl) isAgg32 sizeOf32 e3) hM<|mixE.nil ?_
 refine qac ?_
 refine mixE.soft (v:=.agg #[.slice none 0 0,.slice none 0 0,iv 0]) hM (qaq (hC.bx (i:=1) rfl) isAgg32 sizeOf32 e2) hM<|mixE.sk hD (hC.seta (i:=1) (ds:=[.slice none 0 0,.slice none 0 0,iv 0]) rfl type32 rfl rfl rfl e2 rfl) ?_
 rintro w61 ⟨hC,hF⟩
 replace hD:=hD.besideG hUf9 hF
 replace hM:=hM.besideG hVf9 hF
 clear hF
 refine ⟨hD,?_⟩
 refine mixE.sk hD (hC.seta (i:=0) (ds:=[.slice none 0 0,.slice none 0 0,iv 0]) rfl type32 rfl rfl rfl e3 rfl) ?_
 rintro w62 ⟨hC,hF⟩
 replace hD:=hD.besideG hUf12 hF
 replace hM:=hM.besideG hVf12 hF
 clear hF
 refine ⟨hD,?_⟩
 refine mp (iv (-1)) (qab rfl)<|mp (iv 1) (qab rfl)<|mixE.nil ?_
 clear hS hM
 clear hD
 refine hK46 _ _ ?_
 replace hC:=hC.nil 3 si
 replace hC:=hC.nil 3 si
 replace hC:=hC.nil 3 si
 replace hC:=hC.nil 3 si
 obtain rfl:=os hb
 refine Wc.ret (hKR _ _ ?_)
 refine ⟨_,res4 results20 ⟨_,e2,qai (hC.bx (i:=5) rfl) isAgg32 sizeOf32⟩ ⟨_,e3,qai (hC.bx (i:=4) rfl) isAgg32 sizeOf32⟩ (tV (iv (-1)) rfl) (tV (iv 1) rfl),_,rfl,none,0,0,none,0,0,none,0,0,none,0,0,rfl,(show I64 0 from by unfold I64; omega),(show I64 0 from by unfold I64; omega),(show I64 (-1) from by unfold I64; omega),(show I64 1 from by unfold I64; omega),hC.sE [3,2,1,0]⟩
 replace hb:=tf hq45 hb
 refine Wc.skip (hK43 _ _ ?_)
 refine Wc.seq fun _ hK67=>?_
 refine Wc.seq fun _ hK68=>rg<|lv (.agg #[.slice c l.length d,.slice f m.length h,iv j]) (qaq (hC.bx (i:=2) rfl) isAgg32 sizeOf32 e1)<|lp _ (qaa e4) ?_
 obtain ⟨y69,h70,hb⟩:=bd hb
 refine lex.cl (⟨_,_,qam (vs:=[.agg #[.slice c l.length d,.slice f m.length h,iv j],iv y14.1]) call37 rfl rfl rfl,mirror_Smooth_ok n hC.lt (hC.rd (i:=4) rfl) (hC.rd (i:=3) rfl) o hr16 h70⟩) ?_
 rintro _ w81 ⟨A71,m72,c73,A75,m76,c77,rfl,hr79,hr80,hK⟩
 replace hC:=hC.merge hK
 clear hK
 obtain ⟨rfl,hl82,hc83⟩:=(hC.ow (i:=0) rfl).qae
 obtain ⟨rfl,hl84,hc85⟩:=(hC.ow (i:=1) rfl).qae
 refine lp (.tuple #[.agg #[.slice A71 y69.1.length c73,.slice A75 y69.2.1.length c77,iv y69.2.2.1],iv y69.2.2.2]) (qaa rfl)<|lp (.agg #[.slice A71 y69.1.length c73,.slice A75 y69.2.1.length c77,iv y69.2.2.1]) (qav rfl rfl)<|lp (iv y69.2.2.2) (qav rfl rfl)<|lex.sk (hC.seta (i:=2) (ds:=[.slice A71 y69.1.length c73,.slice A75 y69.2.1.length c77,iv y69.2.2.1]) rfl type32 rfl rfl rfl e3 rfl) ?_
 rintro w86 ⟨hC,hF⟩
 refine lp (iv y69.2.2.2) (qab rfl)<|ln (hK68 _ _ ?_)
 refine Wc.fresh fun E87 hE=>?_
 have e1:=cg hE 1 e1
 have e2:=cg hE 2 e2
 have e3:=cg hE 3 e3
 have e4:=cg hE 4 e4
 have e5:E87 5=iv y69.2.2.2:=cg hE 5 rfl
 clear hE
 refine Wc.seq fun _ hK88=>rg<|lp _ (qaa e5)<|lp (.bool (!(decide (y69.2.2.2=0)))) (pu_neq (k:=.i64) (a:=y69.2.2.2) (b:=0) rfl rfl)<|ln (hK88 _ _ ?_)
 refine Wc.cond (t:=(!(decide (y69.2.2.2=0)))) (rfl) (fun hq89=>?_) (fun hq89=>?_)
 replace hb:=tt hq89 hb
 refine Wc.seq fun _ hK90=>rg<|lp (.agg #[.slice none 0 0,.slice none 0 0,iv 0]) (qat (places:=[(0,1),(1,1),(2,1)]) (pv:=[]) type32 underlying32 rfl (qag type22 (qag type22 (qag type3 qbb rfl rfl) rfl rfl) rfl rfl) rfl (by simp [Instr.fill,Value.cells]))<|lp (.agg #[.slice none 0 0,.slice none 0 0,iv 0]) (qat (places:=[(0,1),(1,1),(2,1)]) (pv:=[]) type32 underlying32 rfl (qag type22 (qag type22 (qag type3 qbb rfl rfl) rfl rfl) rfl rfl) rfl (by simp [Instr.fill,Value.cells]))<|lp _ (qaa e5)<|lex.sk (hC.seta (i:=3) (ds:=[.slice none 0 0,.slice none 0 0,iv 0]) rfl type32 rfl rfl rfl e2 rfl) ?_
 rintro w91 ⟨hC,hF⟩
 refine lex.sk (hC.seta (i:=2) (ds:=[.slice none 0 0,.slice none 0 0,iv 0]) rfl type32 rfl rfl rfl e3 rfl) ?_
 rintro w92 ⟨hC,hF⟩
 refine lp (iv (-1)) (qab rfl)<|lp (iv y69.2.2.2) (qab rfl)<|ln (hK90 _ _ ?_)
 replace hC:=hC.nil 3 si
 replace hC:=hC.nil 3 si
 replace hC:=hC.nil 3 si
 replace hC:=hC.nil 3 si
 obtain rfl:=os hb
 refine Wc.ret (hKR _ _ ?_)
 refine ⟨_,res4 results20 ⟨_,e2,qai (hC.bx (i:=7) rfl) isAgg32 sizeOf32⟩ ⟨_,e3,qai (hC.bx (i:=6) rfl) isAgg32 sizeOf32⟩ (tV (iv (-1)) rfl) (tV (iv y69.2.2.2) rfl),_,rfl,none,0,0,none,0,0,none,0,0,none,0,0,rfl,(show I64 0 from by unfold I64; omega),(show I64 0 from by unfold I64; omega),(show I64 (-1) from by unfold I64; omega),hr80,hC.sE [3,2,1,0]⟩
 replace hb:=tf hq89 hb
 refine Wc.skip (hK67 _ _ ?_)
 refine Wc.seq fun _ hK97=>?_
 refine Wc.seq fun _ hK98=>rg<|lv (.agg #[.slice c l.length d,.slice f m.length h,iv j]) (qaq (hC.bx (i:=4) rfl) isAgg32 sizeOf32 e1)<|lp _ (qaa e4) ?_
 obtain ⟨y99,h100,hb⟩:=bd hb
 refine lex.cl (⟨_,_,qam (vs:=[.agg #[.slice c l.length d,.slice f m.length h,iv j],iv y14.1]) call38 rfl rfl rfl,mirror_Switch_ok n hC.lt (hC.rd (i:=6) rfl) (hC.rd (i:=5) rfl) o hr16 h100⟩) ?_
 rintro _ w111 ⟨A101,m102,c103,A105,m106,c107,rfl,hr109,hr110,hK⟩
 replace hC:=hC.merge hK
 clear hK
 obtain ⟨rfl,hl112,hc113⟩:=(hC.ow (i:=0) rfl).qae
 obtain ⟨rfl,hl114,hc115⟩:=(hC.ow (i:=1) rfl).qae
 refine lp (.tuple #[.agg #[.slice A101 y99.1.length c103,.slice A105 y99.2.1.length c107,iv y99.2.2.1],iv y99.2.2.2]) (qaa rfl)<|lp (.agg #[.slice A101 y99.1.length c103,.slice A105 y99.2.1.length c107,iv y99.2.2.1]) (qav rfl rfl)<|lp (iv y99.2.2.2) (qav rfl rfl)<|lex.sk (hC.seta (i:=5) (ds:=[.slice A101 y99.1.length c103,.slice A105 y99.2.1.length c107,iv y99.2.2.1]) rfl type32 rfl rfl rfl e2 rfl) ?_
 rintro w116 ⟨hC,hF⟩
 refine lp (iv y99.2.2.2) (qab rfl)<|ln (hK98 _ _ ?_)
 refine Wc.seq fun _ hK117=>rg<|lp (iv y99.2.2.2) (qaa rfl)<|lp (.bool (!(decide (y99.2.2.2=0)))) (pu_neq (k:=.i64) (a:=y99.2.2.2) (b:=0) rfl rfl)<|ln (hK117 _ _ ?_)
 refine Wc.fresh fun E118 hE=>?_
 have e2:=cg hE 2 e2
 have e3:=cg hE 3 e3
 have e4:=cg hE 4 e4
 have e5:E118 5=iv y99.2.2.2:=cg hE 5 rfl
 have e37:E118 37=.bool (!(decide (y99.2.2.2=0))):=cg hE 37 rfl
 clear hE
 refine Wc.cond (t:=(!(decide (y99.2.2.2=0)))) (e37) (fun hq119=>?_) (fun hq119=>?_)
 replace hb:=tt hq119 hb
 refine Wc.seq fun _ hK120=>rg<|lp (.agg #[.slice none 0 0,.slice none 0 0,iv 0]) (qat (places:=[(0,1),(1,1),(2,1)]) (pv:=[]) type32 underlying32 rfl (qag type22 (qag type22 (qag type3 qbb rfl rfl) rfl rfl) rfl rfl) rfl (by simp [Instr.fill,Value.cells]))<|lp (.agg #[.slice none 0 0,.slice none 0 0,iv 0]) (qat (places:=[(0,1),(1,1),(2,1)]) (pv:=[]) type32 underlying32 rfl (qag type22 (qag type22 (qag type3 qbb rfl rfl) rfl rfl) rfl rfl) rfl (by simp [Instr.fill,Value.cells]))<|lp _ (qaa e5)<|lex.sk (hC.seta (i:=5) (ds:=[.slice none 0 0,.slice none 0 0,iv 0]) rfl type32 rfl rfl rfl e2 rfl) ?_
 rintro w121 ⟨hC,hF⟩
 refine lex.sk (hC.seta (i:=4) (ds:=[.slice none 0 0,.slice none 0 0,iv 0]) rfl type32 rfl rfl rfl e3 rfl) ?_
 rintro w122 ⟨hC,hF⟩
 refine lp (iv (-1)) (qab rfl)<|lp (iv y99.2.2.2) (qab rfl)<|ln (hK120 _ _ ?_)
 replace hC:=hC.nil 3 si
 replace hC:=hC.nil 3 si
 replace hC:=hC.nil 3 si
 replace hC:=hC.nil 3 si
 obtain rfl:=os hb
 refine Wc.ret (hKR _ _ ?_)
 refine ⟨_,res4 results20 ⟨_,e2,qai (hC.bx (i:=9) rfl) isAgg32 sizeOf32⟩ ⟨_,e3,qai (hC.bx (i:=8) rfl) isAgg32 sizeOf32⟩ (tV (iv (-1)) rfl) (tV (iv y99.2.2.2) rfl),_,rfl,none,0,0,none,0,0,none,0,0,none,0,0,rfl,(show I64 0 from by unfold I64; omega),(show I64 0 from by unfold I64; omega),(show I64 (-1) from by unfold I64; omega),hr110,hC.sE [3,2,1,0]⟩
 replace hb:=tf hq119 hb
 refine Wc.skip (hK97 _ _ ?_)
 refine Wc.seq fun _ hK127=>?_
 refine Wc.regionPlan [1048617,1048618] (frm [1048617,1048618] [.box g7 32 [.slice A101 y99.1.length c103,.slice A105 y99.2.1.length c107,iv y99.2.2.1],.box g10 32 [.slice A71 y69.1.length c73,.slice A75 y69.2.1.length c77,iv y69.2.2.1]] ([]:List Fact)) (chainP [2] (.alt (chainP [0] (.alt (chainP [1] (chainP [3,4,5,6] .done)) (chainP [3] (chainP [1,4,5,6] .done)))) (chainP [1] (chainP [0,3,4,5,6] .done)))) (fun _=>rfl) mixed (by decide+kernel) (by decide+kernel) fun w129 hw128=>?_
 replace hC:=hC.step (Fr.qcx hw128)
 have hM:=Fr.refl (fun k=>k∈blocks [.box g7 32 [.slice A101 y99.1.length c103,.slice A105 y99.2.1.length c107,iv y99.2.2.1],.box g10 32 [.slice A71 y69.1.length c73,.slice A75 y69.2.1.length c77,iv y69.2.2.1]]) w129
 clear hw128
 have hS:=hC
 have hBf9: ∀g,g<w129.heap.size→some g7=some g→g∈blocks [.box g7 32 [.slice A101 y99.1.length c103,.slice A105 y99.2.1.length c107,iv y99.2.2.1],.box g10 32 [.slice A71 y69.1.length c73,.slice A75 y69.2.1.length c77,iv y69.2.2.1]]:=fun g _ hg=>Option.some.inj hg▸qcg (i:=0) rfl
 have hVf9:g7<w129.heap.size→g7∈blocks [.box g7 32 [.slice A101 y99.1.length c103,.slice A105 y99.2.1.length c107,iv y99.2.2.1],.box g10 32 [.slice A71 y69.1.length c73,.slice A75 y69.2.1.length c77,iv y69.2.2.1]]:=fun _=>qcg (i:=0) rfl
 have hBf12: ∀g,g<w129.heap.size→some g10=some g→g∈blocks [.box g7 32 [.slice A101 y99.1.length c103,.slice A105 y99.2.1.length c107,iv y99.2.2.1],.box g10 32 [.slice A71 y69.1.length c73,.slice A75 y69.2.1.length c77,iv y69.2.2.1]]:=fun g _ hg=>Option.some.inj hg▸qcg (i:=1) rfl
 have hVf12:g10<w129.heap.size→g10∈blocks [.box g7 32 [.slice A101 y99.1.length c103,.slice A105 y99.2.1.length c107,iv y99.2.2.1],.box g10 32 [.slice A71 y69.1.length c73,.slice A75 y69.2.1.length c77,iv y69.2.2.1]]:=fun _=>qcg (i:=1) rfl
 have hD:Fr (fun k=>k∈blocks ([.box g7 32 [.slice A101 y99.1.length c103,.slice A105 y99.2.1.length c107,iv y99.2.2.1],.box g10 32 [.slice A71 y69.1.length c73,.slice A75 y69.2.1.length c77,iv y69.2.2.1]]++([]:List Fact))) w129 w129:=hM.wide
 have hUf9:g7<w129.heap.size→g7∈blocks ([.box g7 32 [.slice A101 y99.1.length c103,.slice A105 y99.2.1.length c107,iv y99.2.2.1],.box g10 32 [.slice A71 y69.1.length c73,.slice A75 y69.2.1.length c77,iv y69.2.2.1]]++([]:List Fact)):=fun _=>qcg (i:=0) rfl
 have hUf12:g10<w129.heap.size→g10∈blocks ([.box g7 32 [.slice A101 y99.1.length c103,.slice A105 y99.2.1.length c107,iv y99.2.2.1],.box g10 32 [.slice A71 y69.1.length c73,.slice A75 y69.2.1.length c77,iv y69.2.2.1]]++([]:List Fact)):=fun _=>qcg (i:=1) rfl
 refine qac ?_
 refine mp (iv y14.1) (qaa e4)<|mixE.nil ?_
 refine qas ?_ ?_
 refine qac ?_
 refine mixE.soft (v:=.agg #[.slice A101 y99.1.length c103,.slice A105 y99.2.1.length c107,iv y99.2.2.1]) hM (qaq (hC.bx (i:=5) rfl) isAgg32 sizeOf32 e2) hM<|mixE.nil ?_
 refine qas ?_ ?_
 refine qac ?_
 refine mixE.soft (v:=.agg #[.slice A71 y69.1.length c73,.slice A75 y69.2.1.length c77,iv y69.2.2.1]) hM (qaq (hC.bx (i:=4) rfl) isAgg32 sizeOf32 e3) hM<|mixE.nil ?_
 refine qac ?_
 refine mixE.sk hD (hC.seta (i:=5) (ds:=[.slice A101 y99.1.length c103,.slice A105 y99.2.1.length c107,iv y99.2.2.1]) rfl type32 rfl rfl rfl e2 rfl) ?_
 rintro w130 ⟨hC,hF⟩
 replace hD:=hD.besideG hUf9 hF
 replace hM:=hM.besideG hVf9 hF
 clear hF
 refine ⟨hD,?_⟩
 refine mixE.sk hD (hC.seta (i:=4) (ds:=[.slice A71 y69.1.length c73,.slice A75 y69.2.1.length c77,iv y69.2.2.1]) rfl type32 rfl rfl rfl e3 rfl) ?_
 rintro w131 ⟨hC,hF⟩
 replace hD:=hD.besideG hUf12 hF
 replace hM:=hM.besideG hVf12 hF
 clear hF
 refine ⟨hD,?_⟩
 refine mp (iv y14.1) (qab rfl)<|mp (iv 0) (qab rfl)<|mixE.nil ?_
 clear hS hM
 clear hD
 refine hK127 _ _ ?_
 obtain rfl:=os hb
 refine Wc.ret (hKR _ _ ?_)
 refine ⟨_,res4 results20 ⟨_,e2,qai (hC.bx (i:=5) rfl) isAgg32 sizeOf32⟩ ⟨_,e3,qai (hC.bx (i:=4) rfl) isAgg32 sizeOf32⟩ (tV (iv y14.1) rfl) (tV (iv 0) rfl),_,rfl,A101,y99.1.length,c103,A105,y99.2.1.length,c107,A71,y69.1.length,c73,A75,y69.2.1.length,c77,rfl,hr109,hr79,hr16,(show I64 0 from by unfold I64; omega),hC.sE [0,1,2,3]⟩
 refine qac ?_
 refine mixE.sk hD (hC.seta (i:=5) (ds:=[.slice A101 y99.1.length c103,.slice A105 y99.2.1.length c107,iv y99.2.2.1]) rfl type32 rfl rfl rfl e2 rfl) ?_
 rintro w132 ⟨hC,hF⟩
 replace hD:=hD.besideG hUf9 hF
 replace hM:=hM.besideG hVf9 hF
 clear hF
 refine ⟨hD,?_⟩
 refine mixE.nil ?_
 refine qac ?_
 refine mixE.soft (v:=.agg #[.slice A71 y69.1.length c73,.slice A75 y69.2.1.length c77,iv y69.2.2.1]) hM (qaq (hC.bx (i:=4) rfl) isAgg32 sizeOf32 e3) hM<|mixE.sk hD (hC.seta (i:=4) (ds:=[.slice A71 y69.1.length c73,.slice A75 y69.2.1.length c77,iv y69.2.2.1]) rfl type32 rfl rfl rfl e3 rfl) ?_
 rintro w133 ⟨hC,hF⟩
 replace hD:=hD.besideG hUf12 hF
 replace hM:=hM.besideG hVf12 hF
 clear hF
 refine ⟨hD,?_⟩
 refine mp (iv y14.1) (qab rfl)<|mp (iv 0) (qab rfl)<|mixE.nil ?_
 clear hS hM
 clear hD
 refine hK127 _ _ ?_
 obtain rfl:=os hb
 refine Wc.ret (hKR _ _ ?_)
 refine ⟨_,res4 results20 ⟨_,e2,qai (hC.bx (i:=5) rfl) isAgg32 sizeOf32⟩ ⟨_,e3,qai (hC.bx (i:=4) rfl) isAgg32 sizeOf32⟩ (tV (iv y14.1) rfl) (tV (iv 0) rfl),_,rfl,A101,y99.1.length,c103,A105,y99.2.1.length,c107,A71,y69.1.length,c73,A75,y69.2.1.length,c77,rfl,hr109,hr79,hr16,(show I64 0 from by unfold I64; omega),hC.sE [0,1,2,3]⟩
 refine qac ?_
 refine mixE.soft (v:=.agg #[.slice A71 y69.1.length c73,.slice A75 y69.2.1.length c77,iv y69.2.2.1]) hM (qaq (hC.bx (i:=4) rfl) isAgg32 sizeOf32 e3) hM<|mixE.nil ?_
 refine qac ?_
 refine mixE.soft (v:=.agg #[.slice A101 y99.1.length c103,.slice A105 y99.2.1.length c107,iv y99.2.2.1]) hM (qaq (hC.bx (i:=5) rfl) isAgg32 sizeOf32 e2) hM<|mixE.sk hD (hC.seta (i:=5) (ds:=[.slice A101 y99.1.length c103,.slice A105 y99.2.1.length c107,iv y99.2.2.1]) rfl type32 rfl rfl rfl e2 rfl) ?_
 rintro w134 ⟨hC,hF⟩
 replace hD:=hD.besideG hUf9 hF
 replace hM:=hM.besideG hVf9 hF
 clear hF
 refine ⟨hD,?_⟩
 refine mixE.sk hD (hC.seta (i:=4) (ds:=[.slice A71 y69.1.length c73,.slice A75 y69.2.1.length c77,iv y69.2.2.1]) rfl type32 rfl rfl rfl e3 rfl) ?_
 rintro w135 ⟨hC,hF⟩
 replace hD:=hD.besideG hUf12 hF
 replace hM:=hM.besideG hVf12 hF
 clear hF
 refine ⟨hD,?_⟩
 refine mp (iv y14.1) (qab rfl)<|mp (iv 0) (qab rfl)<|mixE.nil ?_
 clear hS hM
 clear hD
 refine hK127 _ _ ?_
 obtain rfl:=os hb
 refine Wc.ret (hKR _ _ ?_)
 refine ⟨_,res4 results20 ⟨_,e2,qai (hC.bx (i:=5) rfl) isAgg32 sizeOf32⟩ ⟨_,e3,qai (hC.bx (i:=4) rfl) isAgg32 sizeOf32⟩ (tV (iv y14.1) rfl) (tV (iv 0) rfl),_,rfl,A101,y99.1.length,c103,A105,y99.2.1.length,c107,A71,y69.1.length,c73,A75,y69.2.1.length,c77,rfl,hr109,hr79,hr16,(show I64 0 from by unfold I64; omega),hC.sE [0,1,2,3]⟩

theorem qby (n:Nat) {w:World} {O0:List Nat} (hO: ∀k∈O0,k<w.heap.size) {c:Int} (g:I64 c) {d:Int} (f:I64 d) {r:Bool} (hb:F.qbq n c d=some r):
    Calls prog 39 #[iv c,iv d] w fun e w'=> ∃v,e=.returned v∧v=.bool r∧Cx (fun _=>False) O0 w w' []:=by
 unfold F.qbq at hb
 have hC:=Cx.start hO
 clear hO
 refine qao func39 rfl (by rw [ntmps39]; exact nb rfl) fun KR hKR=>?_
 refine Wc.seq fun _ hK1=>rg<|lp (.bool false) (qab rfl)<|ln (hK1 _ _ ?_)
 refine Wc.seq fun _ hK2=>rg<|lp (iv c) (qaa rfl)<|lp (iv d) (qaa rfl) ?_
 obtain ⟨z3,h4,hb⟩:=bd hb
 refine lp (iv z3) (pu_negc (a:=d) rfl h4)<|lp (.bool (decide (z3≤c))) (pu_geq (k:=.i64) (a:=c) (b:=z3) rfl rfl)<|lp (.bool (decide (z3≤c))) (qaa rfl) ?_
 rcases bS (decide (z3≤c)) with hq5 | hq5
 replace hb:=tt hq5 hb
 refine gp rfl rfl (decide (z3≤c)) rfl hq5 (iv c) (qaa rfl)<|gp rfl rfl (decide (z3≤c)) rfl hq5 (iv d) (qaa rfl)<|gp rfl rfl (decide (z3≤c)) rfl hq5 (.bool (decide (c≤d))) (pu_leq (k:=.i64) (a:=c) (b:=d) rfl rfl)<|lp (.bool (decide (c≤d))) (qap (q:=(decide (z3≤c))) rfl hq5 rfl)<|lp (.bool (decide (c≤d))) (qab rfl)<|ln (hK2 _ _ ?_)
 obtain rfl:=os hb
 refine Wc.ret (hKR _ _ ?_)
 refine ⟨_,res1 results39 (tV (.bool (decide (c≤d))) rfl),_,rfl,rfl,hC.sE []⟩
 replace hb:=tf hq5 hb
 refine gs rfl rfl (decide (z3≤c)) rfl hq5<|gs rfl rfl (decide (z3≤c)) rfl hq5<|gs rfl rfl (decide (z3≤c)) rfl hq5<|lp (.bool false) (qak (q:=(decide (z3≤c))) rfl hq5 rfl)<|lp (.bool false) (qab rfl)<|ln (hK2 _ _ ?_)
 obtain rfl:=os hb
 refine Wc.ret (hKR _ _ ?_)
 refine ⟨_,res1 results39 (tV (.bool false) rfl),_,rfl,rfl,hC.sE []⟩
