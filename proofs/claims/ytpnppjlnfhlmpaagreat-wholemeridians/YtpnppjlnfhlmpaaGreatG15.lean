import Derived.Test.YtpnppjlnfhlmpaaGreatS
import Derived.Test.YtpnppjlnfhlmpaaGreatG14
set_option linter.all false
namespace Go.Proofs.YtpnppjlnfhlmpaaGreat
open Ev Tryz
set_option maxRecDepth 100000
set_option maxHeartbeats 4000000
theorem qcolor_problem_extend_c1_ok (n:Nat): ∀{w:World} {O0:List Nat} (hO: ∀k∈O0,k<w.heap.size) {S:Nat} {L:Int} (b4:I64 L) {M:Int} (b5:I64 M) {N:Int} (b6:I64 N) {Y:Nat} {a1:Option Addr} {b2 D:Nat} {s:List Int} {Z:Nat} {T:Option Addr} {c1 U:Nat} {J:List (Int×(Int×Int))} (c2:Rep O0 w (.sl (.pr si (.pr si si))) [.slice T c1 U] J) {a4:Int} (c3:I64 a4) {Q:Option Addr} {c4 R:Nat} {H:List (List Int)} (c5:Rep O0 w (.sl (.sl si)) [.slice Q c4 R] H) {V:Option Addr} {c6 X:Nat} {K:List (List Int)} (c7:Rep O0 w (.sl (.sl si)) [.slice V c6 X] K) {a2:Nat} {C:Nat} {y:Option Addr} {b0 z:Nat} {f:List Int} (b1:Rep O0 w (.sl si) [.slice y b0 z] f) {u:Nat} {g:Option Addr} {a5 l:Nat} {c:List Int} {x:Nat} {o:Nat} {G:List ((List UInt8)×Int)} {q:Nat} {B:Int} (b3:I64 B) (d1:RBox O0 w S 93 [iv L,iv M,iv N]) (d2:RBox O0 w Y 22 [.slice a1 b2 D]) (d3:RBox O0 w Z 67 [.slice T c1 U,iv a4,.slice Q c4 R,.slice V c6 X]) (d4:RBox O0 w a2 1 [.func (.func 66) #[] #[pg S,pg Y,pg Z,pg a2,pg C,pg u,pg x,pg q]]) (b7:RBox O0 w C 22 [.slice y b0 z]) (b9:RBox O0 w u 79 [.slice g a5 l]) (c0:RBox O0 w x 55 [.map (some o)]) (hio:Tk O0 w [.own 3 si (.slice a1 b2 D) s,.own 5 (.int .u8) (.slice g a5 l) c,.mp o .str si G,.box q 3 [iv B]]) {r:(List Int)×(List Int)×(List ((List UInt8)×Int))} (hb:F.qau n L M N s J a4 H K f c G B=some r),
    Calls prog 66 #[pg S,pg Y,pg Z,pg a2,pg C,pg u,pg x,pg q] w fun e w'=> ∃v,e=.returned v∧v=.tuple #[]∧Cx (fun k=>k∈blocks [.own 3 si (.slice a1 b2 D) s,.own 5 (.int .u8) (.slice g a5 l) c,.mp o .str si G,.box q 3 [iv B]]) O0 w w' [.own 3 si (.slice a1 b2 D) r.1,.own 5 (.int .u8) (.slice g a5 l) r.2.1,.mp o .str si r.2.2,.box q 3 [iv B]]:=by
  induction n with
  | zero=>
    intro w O0 hO S L b4 M b5 N b6 Y a1 b2 D s Z T c1 U J c2 a4 c3 Q c4 R H c5 V c6 X K c7 a2 C y b0 z f b1 u g a5 l c x o G q B b3 d1 d2 d3 d4 b7 b9 c0 hio r hb
    rw [F.qau] at hb
    cases hb
  | succ n ih=>
    intro w O0 hO S L b4 M b5 N b6 Y a1 b2 D s Z T c1 U J c2 a4 c3 Q c4 R H c5 V c6 X K c7 a2 C y b0 z f b1 u g a5 l c x o G q B b3 d1 d2 d3 d4 b7 b9 c0 hio r hb
    rw [F.qau] at hb
    have hC:=Cx.startTk hO hio
    have hsub:=hio.2.2
    replace hC:=hC.argTk (by first | exact hsub | exact fun k hk=>hsub k (by simpa [blocks,Fact.blk] using hk)) c2
    replace hC:=hC.argTk (by first | exact hsub | exact fun k hk=>hsub k (by simpa [blocks,Fact.blk] using hk)) c5
    replace hC:=hC.argTk (by first | exact hsub | exact fun k hk=>hsub k (by simpa [blocks,Fact.blk] using hk)) c7
    replace hC:=hC.argTk (by first | exact hsub | exact fun k hk=>hsub k (by simpa [blocks,Fact.blk] using hk)) b1
    replace hC:=hC.argB (by first | exact hsub | exact fun k hk=>hsub k (by simpa [blocks,Fact.blk] using hk) | exact fun k hk=>absurd hk (by simp [blocks,Fact.blk])) d1
    replace hC:=hC.argB (by first | exact hsub | exact fun k hk=>hsub k (by simpa [blocks,Fact.blk] using hk) | exact fun k hk=>absurd hk (by simp [blocks,Fact.blk])) d2
    replace hC:=hC.argB (by first | exact hsub | exact fun k hk=>hsub k (by simpa [blocks,Fact.blk] using hk) | exact fun k hk=>absurd hk (by simp [blocks,Fact.blk])) d3
    replace hC:=hC.argB (by first | exact hsub | exact fun k hk=>hsub k (by simpa [blocks,Fact.blk] using hk) | exact fun k hk=>absurd hk (by simp [blocks,Fact.blk])) d4
    replace hC:=hC.argB (by first | exact hsub | exact fun k hk=>hsub k (by simpa [blocks,Fact.blk] using hk) | exact fun k hk=>absurd hk (by simp [blocks,Fact.blk])) b7
    replace hC:=hC.argB (by first | exact hsub | exact fun k hk=>hsub k (by simpa [blocks,Fact.blk] using hk) | exact fun k hk=>absurd hk (by simp [blocks,Fact.blk])) b9
    replace hC:=hC.argB (by first | exact hsub | exact fun k hk=>hsub k (by simpa [blocks,Fact.blk] using hk) | exact fun k hk=>absurd hk (by simp [blocks,Fact.blk])) c0
    obtain ⟨rfl,d9,e8⟩:=c2.qad
    obtain ⟨rfl,f0,f1⟩:=c5.qad
    obtain ⟨rfl,f2,f3⟩:=c7.qad
    obtain ⟨rfl,d5,d6⟩:=b1.qad
    obtain ⟨rfl,f4,f5⟩:=(hC.ow (i:=11) r0).qad
    obtain ⟨rfl,d7,d8⟩:=(hC.ow (i:=12) r0).qad
    clear hio hsub
    obtain ⟨I,hI,hC⟩: ∃I:Nat→Prop,I=(fun k=>k∈blocks [.own 3 si (.slice a1 s.length D) s,.own 5 (.int .u8) (.slice g c.length l) c,.mp o .str si G,.box q 3 [iv B]])∧Cx I O0 w w ([.rbox x 55 [.map (some o)],.rbox u 79 [.slice g c.length l],.rbox C 22 [.slice y f.length z],.rbox a2 1 [.func (.func 66) #[] #[pg S,pg Y,pg Z,pg a2,pg C,pg u,pg x,pg q]],.rbox Z 67 [.slice T J.length U,iv a4,.slice Q H.length R,.slice V K.length X],.rbox Y 22 [.slice a1 s.length D],.rbox S 93 [iv L,iv M,iv N],.ro (.sl si) [.slice y f.length z] f,.ro (.sl (.sl si)) [.slice V K.length X] K,.ro (.sl (.sl si)) [.slice Q H.length R] H,.ro (.sl (.pr si (.pr si si))) [.slice T J.length U] J,.own 3 si (.slice a1 s.length D) s,.own 5 (.int .u8) (.slice g c.length l) c,.mp o .str si G,.box q 3 [iv B]]):=⟨_,r0,hC⟩
    refine qao func66 r0 (by rw [ntmps66]; exact nb r0) fun KR i2=>?_
    refine ws1 fun _ l1=>?_
    refine ws1 fun _ l2=>?_
    refine rg ?_
    refine lp (.pointer (some ((⟨S,0,none⟩:Addr).add 1))) (qam (sz:=1) u93q r0 s3q (by decide) r0 r0) ?_
    refine lv (iv M) (qar (hC.rbx (i:=6) r0) i3q r0 r0) ?_
    refine lp (.pointer (some ((⟨S,0,none⟩:Addr).add 0))) (qam (sz:=1) u93q r0 s3q (by decide) r0 r0) ?_
    refine lv (iv L) (qar (hC.rbx (i:=6) r0) i3q r0 r0) ?_
    refine lp (.pointer (some ((⟨S,0,none⟩:Addr).add 2))) (qam (sz:=1) u93q r0 s3q (by decide) r0 r0) ?_
    refine lv (iv N) (qar (hC.rbx (i:=6) r0) i3q r0 r0) ?_
    refine lp (.agg #[iv M,iv L,iv N]) (pu_builda (pv:=[(0,iv M),(1,iv L),(2,iv N)]) (sz:=1) type106 underlying106 r0 type3 r0 r0 (by simp [Instr.fill,Value.cells])) ?_
    refine lp (iv 0) (qaa r0) ?_
    refine ln ?_
    refine l2 _ _ ?_
    obtain ⟨o18,hl0,hb⟩:=bd hb
    refine wc1 (fun E wv=> ∃(a3:Int),E 0=pg S∧E 1=pg Y∧E 2=pg Z∧E 4=pg C∧E 5=pg u∧E 6=pg x∧E 7=pg q∧I64 a3∧Cx I O0 w wv [.rbox S 93 [iv L,iv M,iv N],.rbox Y 22 [.slice a1 s.length D],.own 3 si (.slice a1 s.length D) s,.rbox Z 67 [.slice T J.length U,iv a4,.slice Q H.length R,.slice V K.length X],.ro (.sl (.pr si (.pr si si))) [.slice T J.length U] J,.ro (.sl (.sl si)) [.slice Q H.length R] H,.ro (.sl (.sl si)) [.slice V K.length X] K,.rbox C 22 [.slice y f.length z],.ro (.sl si) [.slice y f.length z] f,.rbox u 79 [.slice g c.length l],.own 5 (.int .u8) (.slice g c.length l) c,.rbox x 55 [.map (some o)],.mp o .str si G,.box q 3 [iv B]]∧((get s L).bind fun h0=>(get H h0).bind fun i3=>(get s M).bind fun h3=>(get i3 h3).bind fun g4=>(get s N).bind fun g5=>cond (!(decide (g4=g5))) (some (s,c,G)) (((loopN n (F.qbm (F.qau n) n s f) (0,c)).bind fun o147=>match o147 with | (a0,P)=>(some ((gget G (P.map b8)).getD (0:Int))).bind fun g6=>(chk (g6+B)).bind fun f9=>some (s,P,(gput G (P.map b8) (min f9 1099511627777))))):Option ((List Int)×(List Int)×(List ((List UInt8)×Int))))=some r) (fun _ l3=>?_) ?_
    · refine wb ?_
      refine wl1 (fun m E wv=> ∃(a3:Int),E 0=pg S∧E 1=pg Y∧E 2=pg Z∧E 3=pg a2∧E 4=pg C∧E 5=pg u∧E 6=pg x∧E 7=pg q∧E 20=.agg #[iv M,iv L,iv N]∧E 21=iv a3∧I64 a3∧Cx I O0 w wv [.rbox S 93 [iv L,iv M,iv N],.rbox Y 22 [.slice a1 s.length D],.own 3 si (.slice a1 s.length D) s,.rbox Z 67 [.slice T J.length U,iv a4,.slice Q H.length R,.slice V K.length X],.ro (.sl (.pr si (.pr si si))) [.slice T J.length U] J,.ro (.sl (.sl si)) [.slice Q H.length R] H,.ro (.sl (.sl si)) [.slice V K.length X] K,.rbox a2 1 [.func (.func 66) #[] #[pg S,pg Y,pg Z,pg a2,pg C,pg u,pg x,pg q]],.rbox C 22 [.slice y f.length z],.ro (.sl si) [.slice y f.length z] f,.rbox u 79 [.slice g c.length l],.own 5 (.int .u8) (.slice g c.length l) c,.rbox x 55 [.map (some o)],.mp o .str si G,.box q 3 [iv B]]∧loopN m (F.qbe (F.qau n) n L M N s J a4 H K f c G B) a3=some o18) n ⟨0,r0,r0,r0,r0,r0,r0,r0,r0,r0,r0,i0,hC.sE [6,5,11,4,10,9,8,3,2,7,1,12,0,13,14],hl0⟩ ?_
      have hbK0:=hb
      clear hb hC hl0
      rintro m21 o9 l4 ⟨a3,e0,e1,e2,e3,e4,e5,e6,e7,g0,f8,c8,hC,hl0⟩ K20 l5
      obtain ⟨m21',o24,rfl,hb,hl0⟩:=qak hl0
      unfold F.qbe at hb
      refine ws1 fun _ l6=>?_
      refine rg ?_
      refine lp (.bool (decide (a3<3))) (qaq (k:=.i64) (a:=a3) (b:=3) f8 r0) ?_
      refine ln ?_
      refine l6 _ _ ?_
      refine ws1 fun _ l7=>?_
      refine wc (t:=(decide (a3<3))) (r0) (fun i4=>?_) (fun i4=>?_)
      · replace hb:=tt i4 hb
        refine ws2 ?_
        refine l7 _ _ ?_
        refine ws1 fun _ l8=>?_
        refine wb ?_
        refine ws1 fun _ l9=>?_
        refine rg ?_
        obtain ⟨f6,h8,hb⟩:=bd hb
        have hr32:I64 f6:=all_get (p:=fun d=>I64 d) (Qe.2 ⟨b5,Qe.2 ⟨b4,Qe.2 ⟨b6,fun _ h=>absurd h Qh⟩⟩⟩) h8
        refine lp (iv f6) (pu_ix1 (a:=a3) (cs:=(([M,L,N]:List Int).map (Value.int .i64)).toArray) underlying106 s3q i3q g0 f8 (by have h1:=(qac h8).1; have h2:=(get_nn h8); simp at h1; omega) (ixa_int (qac h8).2)) ?_
        refine lp (iv f6) (qab r0) ?_
        refine ln ?_
        refine l9 _ _ ?_
        refine ws1 fun _ m0=>?_
        refine ws1 fun _ m1=>?_
        refine rg ?_
        refine lv (.slice a1 s.length D) (qaf i22 e1 ((hC.rbx (i:=1) r0).cell (j:=0) r0)) ?_
        refine lp (iv f6) (qaa r0) ?_
        obtain ⟨g1,j6,hb⟩:=bd hb
        obtain ⟨ad37,cs38,hA,hc39,hr40⟩:=hC.elo (i:=2) r0 (qac j6).2
        subst hA
        refine lp (.pointer (some (ad37.add (f6.toNat*1)))) (qae (a:=f6) u22 s3q r0 r0 (qac j6).1) ?_
        obtain ⟨rfl,hr40'⟩:=hr40
        refine lv (iv g1) (qaf i3q r0 (hc39 0 _ r0)) ?_
        refine lp (.bool (!(decide (g1=(-1))))) (qck (k:=.i64) (a:=g1) (b:=(-1)) r0 r0) ?_
        refine ln ?_
        refine m1 _ _ ?_
        refine wc (t:=(!(decide (g1=(-1))))) (r0) (fun i5=>?_) (fun i5=>?_)
        · replace hb:=tt i5 hb
          refine we r0 ?_
          refine l8 _ _ ?_
          refine rg ?_
          obtain ⟨i6,j7,hb⟩:=bd hb
          refine lp (iv i6) (qaj (a:=a3) (b:=1) f8 r0 j7) ?_
          refine lp (iv i6) (qaa r0) ?_
          refine ln ?_
          obtain rfl:=os hb
          exact l5 m21' _ _ (Qa _) ⟨i6,e0,e1,e2,e3,e4,e5,e6,e7,g0,r0,(qah j7),hC.sE [0,1,2,3,4,5,6,7,8,9,10,11,12,13,14],lN hl0⟩
        · replace hb:=tf i5 hb
          refine ws2 ?_
          refine m0 _ _ ?_
          refine ws1 fun _ m2=>?_
          refine ws1 fun _ m3=>?_
          refine rg ?_
          refine lv (.agg #[.slice T J.length U,iv a4,.slice Q H.length R,.slice V K.length X]) (qbg (hC.rbx (i:=3) r0) i67 s67 e2) ?_
          refine lv (.agg #[iv L,iv M,iv N]) (qbg (hC.rbx (i:=0) r0) i93 s93 e0) ?_
          refine lp (iv f6) (qaa r0) ?_
          refine lv (.slice (some ad37) s.length D) (qaf i22 e1 ((hC.rbx (i:=1) r0).cell (j:=0) r0)) ?_
          replace hC:Cx I O0 w l4 ([.own 3 si (.slice (some ad37) s.length D) s]++[.rbox S 93 [iv L,iv M,iv N],.rbox Y 22 [.slice (some ad37) s.length D],.rbox Z 67 [.slice T J.length U,iv a4,.slice Q H.length R,.slice V K.length X],.ro (.sl (.pr si (.pr si si))) [.slice T J.length U] J,.ro (.sl (.sl si)) [.slice Q H.length R] H,.ro (.sl (.sl si)) [.slice V K.length X] K,.rbox a2 1 [.func (.func 66) #[] #[pg S,pg Y,pg Z,pg a2,pg C,pg u,pg x,pg q]],.rbox C 22 [.slice y f.length z],.ro (.sl si) [.slice y f.length z] f,.rbox u 79 [.slice g c.length l],.own 5 (.int .u8) (.slice g c.length l) c,.rbox x 55 [.map (some o)],.mp o .str si G,.box q 3 [iv B]]):=hC.sE [2,0,1,3,4,5,6,7,8,9,10,11,12,13,14]
          obtain ⟨f7,m4,hb⟩:=bd hb
          refine lc (⟨_,_,qap (vs:=[.agg #[.slice T J.length U,iv a4,.slice Q H.length R,.slice V K.length X],.agg #[iv L,iv M,iv N],iv f6,.slice (some ad37) s.length D]) call67 r0 r0 r0,qcolor_problem_choices_ok n hC.lt (hC.rd (i:=4) r0) c3 (hC.rd (i:=5) r0) (hC.rd (i:=6) r0) b4 b5 b6 hr32 hC.give m4⟩) ?_
          rintro _ p0 ⟨A48,m49,c50,rfl,hK⟩
          replace hC:=hC.back hK
          obtain ⟨rfl,hl53,hc54⟩:=(hC.rd (i:=0) r0).qad
          refine lp (iv (f7.1.length:Int)) (qan (A:=A48) (n:=f7.1.length) (m:=c50) u22 r0) ?_
          refine lp (iv 0) (qaa r0) ?_
          refine ln ?_
          refine m3 _ _ ?_
          refine wf1 fun g7 hE=>?_
          have e0:=cg hE 0 e0
          have e1:=cg hE 1 e1
          have e2:=cg hE 2 e2
          have e3:=cg hE 3 e3
          have e4:=cg hE 4 e4
          have e5:=cg hE 5 e5
          have e6:=cg hE 6 e6
          have e7:=cg hE 7 e7
          have e9:g7 9=iv f6:=cg hE 9 r0
          have g0:=cg hE 20 g0
          have f8:=cg hE 21 f8
          have h4:g7 22=.bool (decide (a3<3)):=cg hE 22 r0
          have h5:g7 28=.bool (!(decide (g1=(-1)))):=cg hE 28 r0
          have g8:g7 33=.slice A48 f7.1.length c50:=cg hE 33 r0
          have g9:g7 34=iv (f7.1.length:Int):=cg hE 34 r0
          have g2:g7 35=iv 0:=cg hE 35 r0
          obtain ⟨o56,hl1,hb⟩:=bd hb
          refine wc1 (fun E wv=> ∃(a6:Int) (a9:List Int) (a7:List Int) (a8:List ((List UInt8)×Int)),E 0=pg S∧E 1=pg Y∧E 2=pg Z∧E 3=pg a2∧E 4=pg C∧E 5=pg u∧E 6=pg x∧E 7=pg q∧E 9=iv f6∧E 20=.agg #[iv M,iv L,iv N]∧E 21=iv a3∧E 22=.bool (decide (a3<3))∧E 28=.bool (!(decide (g1=(-1))))∧E 33=.slice A48 f7.1.length c50∧E 34=iv (f7.1.length:Int)∧E 35=iv a6∧I64 a6∧Cx I O0 w wv [.rbox S 93 [iv L,iv M,iv N],.rbox Y 22 [.slice (some ad37) s.length D],.own 3 si (.slice (some ad37) s.length D) a9,.rbox Z 67 [.slice T J.length U,iv a4,.slice Q H.length R,.slice V K.length X],.ro (.sl (.pr si (.pr si si))) [.slice T J.length U] J,.ro (.sl (.sl si)) [.slice Q H.length R] H,.ro (.sl (.sl si)) [.slice V K.length X] K,.rbox a2 1 [.func (.func 66) #[] #[pg S,pg Y,pg Z,pg a2,pg C,pg u,pg x,pg q]],.rbox C 22 [.slice y f.length z],.ro (.sl si) [.slice y f.length z] f,.rbox u 79 [.slice g c.length l],.own 5 (.int .u8) (.slice g c.length l) a7,.rbox x 55 [.map (some o)],.mp o .str si a8,.box q 3 [iv B],.ro (.sl si) [.slice A48 f7.1.length c50] f7.1]∧((get a9 f6).bind fun m5=>some (.inr (.inr ((a9.set f6.toNat (-1)),a7,a8))):Option ((Int)⊕((Int)⊕((List Int)×(List Int)×(List ((List UInt8)×Int))))))=some o24) (fun _ m6=>?_) ?_
          · refine wb ?_
            refine wl1 (fun m E wv=> ∃(a6:Int) (a9:List Int) (a7:List Int) (a8:List ((List UInt8)×Int)),E 0=pg S∧E 1=pg Y∧E 2=pg Z∧E 3=pg a2∧E 4=pg C∧E 5=pg u∧E 6=pg x∧E 7=pg q∧E 9=iv f6∧E 20=.agg #[iv M,iv L,iv N]∧E 21=iv a3∧E 22=.bool (decide (a3<3))∧E 28=.bool (!(decide (g1=(-1))))∧E 33=.slice A48 f7.1.length c50∧E 34=iv (f7.1.length:Int)∧E 35=iv a6∧I64 a6∧Cx I O0 w wv [.rbox S 93 [iv L,iv M,iv N],.rbox Y 22 [.slice (some ad37) s.length D],.own 3 si (.slice (some ad37) s.length D) a9,.rbox Z 67 [.slice T J.length U,iv a4,.slice Q H.length R,.slice V K.length X],.ro (.sl (.pr si (.pr si si))) [.slice T J.length U] J,.ro (.sl (.sl si)) [.slice Q H.length R] H,.ro (.sl (.sl si)) [.slice V K.length X] K,.rbox a2 1 [.func (.func 66) #[] #[pg S,pg Y,pg Z,pg a2,pg C,pg u,pg x,pg q]],.rbox C 22 [.slice y f.length z],.ro (.sl si) [.slice y f.length z] f,.rbox u 79 [.slice g c.length l],.own 5 (.int .u8) (.slice g c.length l) a7,.rbox x 55 [.map (some o)],.mp o .str si a8,.box q 3 [iv B],.ro (.sl si) [.slice A48 f7.1.length c50] f7.1]∧loopN m (F.qcs (F.qau n) n L M N J a4 H K f B f6 f7) (a6,a9,a7,a8)=some o56) n ⟨0,f7.2,c,G,e0,e1,e2,e3,e4,e5,e6,e7,e9,g0,f8,h4,h5,g8,g9,g2,i0,hC.sE [2,3,1,4,5,6,7,8,9,10,11,12,13,14,15,0],hl1⟩ ?_
            have hbK1:=hb
            clear hb hC hl1
            rintro m59 p1 p2 ⟨a6,a9,a7,a8,e0,e1,e2,e3,e4,e5,e6,e7,e9,g0,f8,h4,h5,g8,g9,g2,c9,hC,hl1⟩ K58 m7
            obtain ⟨m59',o62,rfl,hb,hl1⟩:=qak hl1
            unfold F.qcs at hb
            refine ws1 fun _ m8=>?_
            refine rg ?_
            refine lp _ (qaq g2 g9) ?_
            refine ln ?_
            refine m8 _ _ ?_
            refine ws1 fun _ m9=>?_
            refine wc (t:=(decide (a6<(f7.1.length:Int)))) (r0) (fun i7=>?_) (fun i7=>?_)
            · replace hb:=tt i7 hb
              refine ws2 ?_
              refine m9 _ _ ?_
              refine ws1 fun _ n0=>?_
              refine wb ?_
              refine ws1 fun _ n1=>?_
              refine rg ?_
              obtain ⟨h6,j8,hb⟩:=bd hb
              obtain ⟨ad70,cs71,hA,hc72,hr73⟩:=hC.elr (i:=15) r0 (qac j8).2
              subst hA
              refine lp (.pointer (some (ad70.add (a6.toNat*1)))) (qae (a:=a6) u22 s3q g8 g2 (qac j8).1) ?_
              obtain ⟨rfl,hr73'⟩:=hr73
              refine lv (iv h6) (qaf i3q r0 (hc72 0 _ r0)) ?_
              refine lp (iv h6) (qab r0) ?_
              refine ln ?_
              refine n1 _ _ ?_
              refine ws1 fun _ n2=>?_
              refine rg ?_
              refine lv (.slice (some ad37) s.length D) (qaf i22 e1 ((hC.rbx (i:=1) r0).cell (j:=0) r0)) ?_
              refine lp _ (qaa e9) ?_
              refine lp (iv h6) (qaa r0) ?_
              obtain ⟨p3,i8,hb⟩:=bd hb
              obtain ⟨ad77,cs78,hA,hc79,hr80⟩:=hC.elo (i:=2) r0 (qac i8).2
              obtain rfl:=Option.some.inj hA
              refine lp (.pointer (some (ad37.add (f6.toNat*1)))) (qae (a:=f6) u22 s3q r0 r0 (by rw [(hC.ow (i:=2) r0).qad.1]; exact (qac i8).1)) ?_
              refine ls (hC.put (i:=2) r0 r0 s3q (k:=f6.toNat) (a:=h6) (by have:=(qac i8).1; simp at this⊢; omega) (⟨r0,I64.wr (qaz hr73')⟩) r0 r0 r0) ?_
              rintro n3 ⟨hC,hF⟩
              refine ln ?_
              refine n2 _ _ ?_
              refine rg ?_
              refine lv (.func (.func 66) #[] #[pg S,pg Y,pg Z,pg a2,pg C,pg u,pg x,pg q]) (qaf isAgg1 e3 ((hC.rbx (i:=7) r0).cell (j:=0) r0)) ?_
              replace hC:Cx I O0 w n3 ([.own 3 si (.slice (some ad37) s.length D) (a9.set f6.toNat h6),.own 5 (.int .u8) (.slice g c.length l) a7,.mp o .str si a8,.box q 3 [iv B]]++[.rbox S 93 [iv L,iv M,iv N],.rbox Y 22 [.slice (some ad37) s.length D],.rbox Z 67 [.slice T J.length U,iv a4,.slice Q H.length R,.slice V K.length X],.ro (.sl (.pr si (.pr si si))) [.slice T J.length U] J,.ro (.sl (.sl si)) [.slice Q H.length R] H,.ro (.sl (.sl si)) [.slice V K.length X] K,.rbox a2 1 [.func (.func 66) #[] #[pg S,pg Y,pg Z,pg a2,pg C,pg u,pg x,pg q]],.rbox C 22 [.slice y f.length z],.ro (.sl si) [.slice y f.length z] f,.rbox u 79 [.slice g c.length l],.rbox x 55 [.map (some o)],.ro (.sl si) [.slice (some ad70) f7.1.length c50] f7.1]):=hC.sE [2,11,13,14,0,1,3,4,5,6,7,8,9,10,12,15]
              obtain ⟨i9,n4,hb⟩:=bd hb
              refine lc (⟨_,_,qcu (vs:=[pg S,pg Y,pg Z,pg a2,pg C,pg u,pg x,pg q]) (ca:=#[pg S,pg Y,pg Z,pg a2,pg C,pg u,pg x,pg q]) call66 r0 r0 r0,ih hC.lt b4 b5 b6 (hC.rd (i:=7) r0) c3 (hC.rd (i:=8) r0) (hC.rd (i:=9) r0) (hC.rd (i:=12) r0) b3 (hC.rb (i:=4) r0) (hC.rb (i:=5) r0) (hC.rb (i:=6) r0) (hC.rb (i:=10) r0) (hC.rb (i:=11) r0) (hC.rb (i:=13) r0) (hC.rb (i:=14) r0) hC.give n4⟩) ?_
              rintro _ p4 ⟨rfl,hK⟩
              replace hC:=hC.back hK
              refine ln ?_
              refine n0 _ _ ?_
              refine rg ?_
              obtain ⟨j0,j9,hb⟩:=bd hb
              refine lp (iv j0) (qaj (a:=a6) (b:=1) g2 r0 j9) ?_
              refine lp (iv j0) (qaa r0) ?_
              refine ln ?_
              obtain rfl:=os hb
              exact m7 m59' _ _ (Qa _) ⟨j0,i9.1,i9.2.1,i9.2.2,e0,e1,e2,e3,e4,e5,e6,e7,e9,g0,f8,h4,h5,g8,g9,r0,(qah j9),hC.sE [4,5,0,6,7,8,9,10,11,12,13,1,14,2,3,15],lN hl1⟩
            · replace hb:=tf i7 hb
              refine we r0 ?_
              obtain rfl:=os hb
              obtain rfl:=(lX hl1).symm
              exact m6 _ _ ⟨a6,a9,a7,a8,e0,e1,e2,e3,e4,e5,e6,e7,e9,g0,f8,h4,h5,g8,g9,g2,c9,hC.sE [0,1,2,3,4,5,6,7,8,9,10,11,12,13,14,15],hbK1⟩
          · clear hb hC hl1
            rintro p5 p6 ⟨a6,a9,a7,a8,e0,e1,e2,e3,e4,e5,e6,e7,e9,g0,f8,h4,h5,g8,g9,g2,c9,hC,hb⟩
            refine m2 _ _ ?_
            refine ws1 fun _ n5=>?_
            refine rg ?_
            refine lv (.slice (some ad37) s.length D) (qaf i22 e1 ((hC.rbx (i:=1) r0).cell (j:=0) r0)) ?_
            refine lp _ (qaa e9) ?_
            obtain ⟨m5,j1,hb⟩:=bd hb
            obtain ⟨ad92,cs93,hA,hc94,hr95⟩:=hC.elo (i:=2) r0 (qac j1).2
            obtain rfl:=Option.some.inj hA
            refine lp (.pointer (some (ad37.add (f6.toNat*1)))) (qae (a:=f6) u22 s3q r0 r0 (by rw [(hC.ow (i:=2) r0).qad.1]; exact (qac j1).1)) ?_
            refine ls (hC.put (i:=2) r0 r0 s3q (k:=f6.toNat) (a:=(-1)) (by have:=(qac j1).1; simp at this⊢; omega) (⟨r0,I64.wr i11⟩) r0 r0 r0) ?_
            rintro p7 ⟨hC,hF⟩
            refine ln ?_
            refine n5 _ _ ?_
            obtain rfl:=os hb
            obtain rfl:=(lX hl0).symm
            replace hb:=hbK0
            obtain rfl:=os hb
            subst hI
            refine wr1 ?_
            refine i2 _ _ ?_
            refine ⟨_,res0 results66,_,r0,r0,hC.sE [2,11,13,14]⟩
      · replace hb:=tf i4 hb
        refine we r0 ?_
        obtain rfl:=os hb
        obtain rfl:=(lX hl0).symm
        exact l3 _ _ ⟨a3,e0,e1,e2,e4,e5,e6,e7,c8,hC.sE [0,1,2,3,4,5,6,8,9,10,11,12,13,14],hbK0⟩
    · clear hb hC hl0
      rintro p8 p9 ⟨a3,e0,e1,e2,e4,e5,e6,e7,c8,hC,hb⟩
      refine l1 _ _ ?_
      refine ws1 fun _ n6=>?_
      refine ws1 fun _ n7=>?_
      refine wr2 [] (frm [] ([]:List Fact) ([]:List Fact)) (fun _=>rfl) mixed (by decide+kernel) (by decide+kernel) fun n8 hw101=>?_
      replace hC:=hC.step (Fr.qbo hw101)
      have hM:=Fr.refl (fun k=>k∈blocks ([]:List Fact)) n8
      clear hw101
      have hS:=hC
      refine mp (.pointer (some ((⟨Z,0,none⟩:Addr).add 2))) (qam (sz:=1) u67q r0 s31 (by decide) r0 e2) ?_
      refine ml hM (v:=.slice Q H.length R) (fun _ hF=>qar (hS.rbx2 (i:=3) r0 [] hF) i31 r0 r0) ?_
      refine ml hM (v:=.slice a1 s.length D) (fun _ hF=>qaf i22 e1 ((hS.rbx2 (i:=1) r0 [] hF).cell (j:=0) r0)) ?_
      refine mp (.pointer (some ((⟨S,0,none⟩:Addr).add 0))) (qam (sz:=1) u93q r0 s3q (by decide) r0 e0) ?_
      refine ml hM (v:=iv L) (fun _ hF=>qar (hS.rbx2 (i:=0) r0 [] hF) i3q r0 r0) ?_
      obtain ⟨h0,k0,hb⟩:=bd hb
      obtain ⟨ad105,cs106,hA,ho109,hc107,hr108⟩:=hS.elo2 (i:=2) r0 (qac k0).2 [] (by decide)
      subst hA
      refine mp (.pointer (some (ad105.add (L.toNat*1)))) (qae (a:=L) u22 s3q r0 r0 (qac k0).1) ?_
      obtain ⟨rfl,hr108'⟩:=hr108
      refine ml hM (v:=iv h0) (fun _ hF=>qaf i3q r0 (hF.cell (hc107 0 _ r0) (off1 ho109))) ?_
      obtain ⟨i3,k1,hb⟩:=bd hb
      obtain ⟨ad112,cs113,hA,ho116,hc114,hr115⟩:=hS.elr2 (i:=5) r0 (qac k1).2 []
      subst hA
      refine mp (.pointer (some (ad112.add (h0.toNat*1)))) (qae (a:=h0) u31q s22 r0 r0 (qac k1).1) ?_
      have hR:=hr115
      obtain ⟨A117,c118,rfl,hl119,hc120,_⟩:=hr115
      replace hS:=hS.ro hR
      replace hC:=hC.ro hR
      clear hR
      refine ml hM (v:=.slice A117 i3.length c118) (fun _ hF=>qaf i22 r0 (hF.cell (hc114 0 _ r0) (off1 ho116))) ?_
      refine ml hM (v:=.slice (some ad105) s.length D) (fun _ hF=>qaf i22 e1 ((hS.rbx2 (i:=2) r0 [] hF).cell (j:=0) r0)) ?_
      refine mp (.pointer (some ((⟨S,0,none⟩:Addr).add 1))) (qam (sz:=1) u93q r0 s3q (by decide) r0 e0) ?_
      refine ml hM (v:=iv M) (fun _ hF=>qar (hS.rbx2 (i:=1) r0 [] hF) i3q r0 r0) ?_
      obtain ⟨h3,k2,hb⟩:=bd hb
      obtain ⟨ad124,cs125,hA,ho128,hc126,hr127⟩:=hS.elo2 (i:=3) r0 (qac k2).2 [] (by decide)
      obtain rfl:=Option.some.inj hA
      refine mp (.pointer (some (ad105.add (M.toNat*1)))) (qae (a:=M) u22 s3q r0 r0 (qac k2).1) ?_
      obtain ⟨rfl,hr127'⟩:=hr127
      refine ml hM (v:=iv h3) (fun _ hF=>qaf i3q r0 (hF.cell (hc126 0 _ r0) (off1 ho128))) ?_
      obtain ⟨g4,k3,hb⟩:=bd hb
      obtain ⟨ad131,cs132,hA,ho135,hc133,hr134⟩:=hS.elr2 (i:=0) r0 (qac k3).2 []
      subst hA
      refine mp (.pointer (some (ad131.add (h3.toNat*1)))) (qae (a:=h3) u22 s3q r0 r0 (qac k3).1) ?_
      obtain ⟨rfl,hr134'⟩:=hr134
      refine ml hM (v:=iv g4) (fun _ hF=>qaf i3q r0 (hF.cell (hc133 0 _ r0) (off1 ho135))) ?_
      refine ml hM (v:=.slice (some ad105) s.length D) (fun _ hF=>qaf i22 e1 ((hS.rbx2 (i:=2) r0 [] hF).cell (j:=0) r0)) ?_
      refine mp (.pointer (some ((⟨S,0,none⟩:Addr).add 2))) (qam (sz:=1) u93q r0 s3q (by decide) r0 e0) ?_
      refine ml hM (v:=iv N) (fun _ hF=>qar (hS.rbx2 (i:=1) r0 [] hF) i3q r0 r0) ?_
      obtain ⟨g5,k4,hb⟩:=bd hb
      obtain ⟨ad138,cs139,hA,ho142,hc140,hr141⟩:=hS.elo2 (i:=3) r0 (qac k4).2 [] (by decide)
      obtain rfl:=Option.some.inj hA
      refine mp (.pointer (some (ad105.add (N.toNat*1)))) (qae (a:=N) u22 s3q r0 r0 (qac k4).1) ?_
      obtain ⟨rfl,hr141'⟩:=hr141
      refine ml hM (v:=iv g5) (fun _ hF=>qaf i3q r0 (hF.cell (hc140 0 _ r0) (off1 ho142))) ?_
      refine mp (.bool (!(decide (g4=g5)))) (qck (k:=.i64) (a:=g4) (b:=g5) r0 r0) ?_
      refine mn ?_
      clear hS hM
      refine n7 _ _ ?_
      refine wc (t:=(!(decide (g4=g5)))) (r0) (fun j2=>?_) (fun j2=>?_)
      · replace hb:=tt j2 hb
        obtain rfl:=os hb
        subst hI
        refine wr1 ?_
        refine i2 _ _ ?_
        refine ⟨_,res0 results66,_,r0,r0,hC.sE [3,11,13,14]⟩
      · replace hb:=tf j2 hb
        refine ws2 ?_
        refine n6 _ _ ?_
        refine wf1 fun q0 hE=>?_
        have e1:=cg hE 1 e1
        have e4:=cg hE 4 e4
        have e5:=cg hE 5 e5
        have e6:=cg hE 6 e6
        have e7:=cg hE 7 e7
        refine ws1 fun _ n9=>?_
        refine ws1 fun _ o0=>?_
        refine rg ?_
        refine lv (.slice y f.length z) (qaf i22 e4 ((hC.rbx (i:=8) r0).cell (j:=0) r0)) ?_
        refine lp (iv (f.length:Int)) (qan (A:=y) (n:=f.length) (m:=z) u22 r0) ?_
        refine lp (iv 0) (qaa r0) ?_
        refine ln ?_
        refine o0 _ _ ?_
        obtain ⟨o147,hl2,hb⟩:=bd hb
        refine wc1 (fun E wv=> ∃(a0:Int) (P:List Int),E 5=pg u∧E 6=pg x∧E 7=pg q∧I64 a0∧Cx I O0 w wv [.rbox u 79 [.slice g c.length l],.own 5 (.int .u8) (.slice g c.length l) P,.rbox x 55 [.map (some o)],.mp o .str si G,.box q 3 [iv B],.own 3 si (.slice (some ad105) s.length D) s]∧((some ((gget G (P.map b8)).getD (0:Int))).bind fun g6=>(chk (g6+B)).bind fun f9=>some (s,P,(gput G (P.map b8) (min f9 1099511627777))):Option ((List Int)×(List Int)×(List ((List UInt8)×Int))))=some r) (fun _ o1=>?_) ?_
        · refine wb ?_
          refine wl1 (fun m E wv=> ∃(a0:Int) (P:List Int),E 1=pg Y∧E 5=pg u∧E 6=pg x∧E 7=pg q∧E 72=.slice y f.length z∧E 73=iv (f.length:Int)∧E 74=iv a0∧I64 a0∧Cx I O0 w wv [.rbox Y 22 [.slice (some ad105) s.length D],.own 3 si (.slice (some ad105) s.length D) s,.rbox u 79 [.slice g c.length l],.own 5 (.int .u8) (.slice g c.length l) P,.rbox x 55 [.map (some o)],.mp o .str si G,.box q 3 [iv B],.ro (.sl si) [.slice y f.length z] f]∧loopN m (F.qbm (F.qau n) n s f) (a0,P)=some o147) n ⟨0,c,e1,e5,e6,e7,r0,r0,r0,i0,hC.sE [2,3,10,11,12,13,14,9],hl2⟩ ?_
          have hbK2:=hb
          clear hb hC hl2
          rintro m150 q1 q2 ⟨a0,P,e1,e5,e6,e7,k5,k6,h9,d0,hC,hl2⟩ K149 o2
          obtain ⟨m150',o153,rfl,hb,hl2⟩:=qak hl2
          unfold F.qbm at hb
          refine ws1 fun _ o3=>?_
          refine rg ?_
          refine lp _ (qaq h9 k6) ?_
          refine ln ?_
          refine o3 _ _ ?_
          refine ws1 fun _ o4=>?_
          refine wc (t:=(decide (a0<(f.length:Int)))) (r0) (fun j3=>?_) (fun j3=>?_)
          · replace hb:=tt j3 hb
            refine ws2 ?_
            refine o4 _ _ ?_
            refine ws1 fun _ o5=>?_
            refine wb ?_
            refine ws1 fun _ o6=>?_
            refine rg ?_
            refine lp _ (qaa h9) ?_
            obtain ⟨h7,k7,hb⟩:=bd hb
            obtain ⟨ad161,cs162,hA,hc163,hr164⟩:=hC.elr (i:=7) r0 (qac k7).2
            subst hA
            refine lp (.pointer (some (ad161.add (a0.toNat*1)))) (qae (a:=a0) u22 s3q k5 h9 (qac k7).1) ?_
            obtain ⟨rfl,hr164'⟩:=hr164
            refine lv (iv h7) (qaf i3q r0 (hc163 0 _ r0)) ?_
            refine lp (iv a0) (qab r0) ?_
            refine lp (iv h7) (qab r0) ?_
            refine ln ?_
            refine o6 _ _ ?_
            refine wr2 [79,81,84] (frm [79,81,84] ([]:List Fact) [.own 5 (.int .u8) (.slice g c.length l) P]) (fun _=>rfl) mixed (by decide+kernel) (by decide+kernel) fun i1 hw165=>?_
            replace hC:=hC.step (Fr.qbo hw165)
            have hM:=Fr.refl (fun k=>k∈blocks ([]:List Fact)) i1
            clear hw165
            have hS:=hC
            have hD:Fr (fun k=>k∈blocks (([]:List Fact)++[.own 5 (.int .u8) (.slice g c.length l) P])) i1 i1:=hM.wide
            have o7:Beside (([]:List Fact)++[.own 5 (.int .u8) (.slice g c.length l) P]) i1 (.slice g c.length l):=Beside.of (i:=0) r0
            refine ms2 hD (v:=.slice g c.length l) (fun _ hF=>qaf isAgg79 e5 ((hS.rbx2 (i:=2) r0 [3] hF).cell (j:=0) r0)) ?_
            refine mp (iv a0) (qaa r0) ?_
            refine ms2 hD (v:=.slice (some ad105) s.length D) (fun _ hF=>qaf i22 e1 ((hS.rbx2 (i:=0) r0 [3] hF).cell (j:=0) r0)) ?_
            refine mp (iv h7) (qaa r0) ?_
            obtain ⟨g3,k8,hb⟩:=bd hb
            obtain ⟨ad169,cs170,hA,ho173,hc171,hr172⟩:=hS.elo2 (i:=1) r0 (qac k8).2 [3] (by decide)
            obtain rfl:=Option.some.inj hA
            refine mp (.pointer (some (ad105.add (h7.toNat*1)))) (qae (a:=h7) u22 s3q r0 r0 (qac k8).1) ?_
            obtain ⟨rfl,hr172'⟩:=hr172
            refine ms2 hD (v:=iv g3) (fun _ hF=>qaf i3q r0 (hF.cell (hc171 0 _ r0) (off1 ho173))) ?_
            refine mp (.int .u8 (w8 g3)) (pu_conv (a:=g3) u3q u5 r0 (wrap8 g3)) ?_
            obtain ⟨q3,j4,hb⟩:=bd hb
            obtain ⟨ad176,cs177,hA,ho180,hc178,hr179⟩:=hS.elo2 (i:=3) r0 (qac j4).2 [] (by decide)
            subst hA
            refine mp (.pointer (some (ad176.add (a0.toNat*1)))) (qae (a:=a0) u79 s5 r0 r0 (by rw [(hC.ow (i:=3) r0).qad.1]; exact (qac j4).1)) ?_
            refine ms1 hD (hC.put (i:=3) r0 r0 s5 (k:=a0.toNat) (a:=(w8 g3)) (by have:=(qac j4).1; simp at this⊢; omega) (⟨r0,(w8_rng g3)⟩) r0 r0 r0) ?_
            rintro q4 ⟨hC,hF⟩
            replace hD:=hD.beside o7 hF
            refine ⟨hD,?_⟩
            refine mn ?_
            clear hS hM
            clear hD
            refine o5 _ _ ?_
            refine rg ?_
            obtain ⟨j5,k9,hb⟩:=bd hb
            refine lp (iv j5) (qaj (a:=a0) (b:=1) h9 r0 k9) ?_
            refine lp (iv j5) (qaa r0) ?_
            refine ln ?_
            obtain rfl:=os hb
            exact o2 m150' _ _ (Qa _) ⟨j5,(P.set a0.toNat (w8 g3)),e1,e5,e6,e7,k5,k6,r0,(qah k9),hC.sE [0,1,2,3,4,5,6,7],lN hl2⟩
          · replace hb:=tf j3 hb
            refine we r0 ?_
            obtain rfl:=os hb
            obtain rfl:=(lX hl2).symm
            exact o1 _ _ ⟨a0,P,e5,e6,e7,d0,hC.sE [2,3,4,5,6,1],hbK2⟩
        · clear hb hC hl2
          rintro q5 q6 ⟨a0,P,e5,e6,e7,d0,hC,hb⟩
          refine n9 _ _ ?_
          refine rg ?_
          refine lv (.map (some o)) (qaf isAgg55 e6 ((hC.rbx (i:=2) r0).cell (j:=0) r0)) ?_
          refine lv (.slice g c.length l) (qaf isAgg79 e5 ((hC.rbx (i:=0) r0).cell (j:=0) r0)) ?_
          refine lv (.string (bA P)) (cv_str (own_rep (hC.ow (i:=1) r0)) u79 u9q u5 r0) ?_
          refine lv (.map (some o)) (qaf isAgg55 e6 ((hC.rbx (i:=2) r0).cell (j:=0) r0)) ?_
          refine lv (.slice g c.length l) (qaf isAgg79 e5 ((hC.rbx (i:=0) r0).cell (j:=0) r0)) ?_
          refine lv (.string (bA P)) (cv_str (own_rep (hC.ow (i:=1) r0)) u79 u9q u5 r0) ?_
          obtain ⟨g6,o8,hb⟩:=bd hb
          obtain ⟨cs186,hY,hR⟩:=hC.mplk (i:=3) (k:=(P.map b8)) r0 (KL.str u9q) u55 (zc:=[iv 0]) (zx:=(0:Int)) z3q (⟨r0,I64.wr i0⟩) false
          rw [Option.some.inj o8] at hR
          obtain ⟨rfl,hr189⟩:=hR
          refine lv (iv g6) (hY r0 r0) ?_
          clear hY
          refine lv (iv B) (qaf i3q e7 ((hC.bx (i:=4) r0).cell (j:=0) r0)) ?_
          obtain ⟨f9,l0,hb⟩:=bd hb
          refine lp (iv f9) (qaj (a:=g6) (b:=B) r0 r0 l0) ?_
          refine lp (iv (min f9 1099511627777)) (pu_min (a:=f9) (b:=1099511627777) r0 r0) ?_
          refine ls (hC.mpput (i:=3) (k:=(P.map b8)) (cs:=[iv (min f9 1099511627777)]) (v:=(min f9 1099511627777)) r0 (KL.str u9q) trivial u55 (⟨r0,I64.wr (I64.min (qah l0) (show I64 1099511627777 from by unfold I64; omega))⟩) r0 r0 r0) ?_
          rintro q7 ⟨hC,hF⟩
          refine ln ?_
          obtain rfl:=os hb
          subst hI
          refine i2 _ _ ?_
          refine ⟨_,res0 results66,_,r0,r0,hC.sE [5,1,3,4]⟩

theorem qcolor_problem_extend_ok (n:Nat) {w:World} {O0:List Nat} (hO: ∀k∈O0,k<w.heap.size) {B:Option Addr} {b3 C:Nat} {x:List (Int×(Int×Int))} (b4:Rep O0 w (.sl (.pr si (.pr si si))) [.slice B b3 C] x) {o:Int} (c2:I64 o) {D:Option Addr} {b5 G:Nat} {y:List (List Int)} (b6:Rep O0 w (.sl (.sl si)) [.slice D b5 G] y) {H:Option Addr} {b7 J:Nat} {z:List (List Int)} (b8:Rep O0 w (.sl (.sl si)) [.slice H b7 J] z) {M:Int} (b9:I64 M) {N:Int} (c0:I64 N) {Q:Int} (c1:I64 Q) {f:Option Addr} {a4 l:Nat} {c:List Int} (a5:Rep O0 w (.sl si) [.slice f a4 l] c) {q:Option Addr} {a6 u:Nat} {d:List Int} (a7:Rep O0 w (.sl si) [.slice q a6 u] d) {p:Nat} {Y:List ((List UInt8)×Int)} (hio:Tk O0 w [.mp p .str si Y]) {r:(List ((List UInt8)×Int))} (hb:F.qed n x o y z M N Q c d Y=some r):
    Calls prog 55 #[.agg #[.slice B b3 C,iv o,.slice D b5 G,.slice H b7 J],.agg #[iv M,iv N,iv Q],.slice f a4 l,.slice q a6 u,.map (some p)] w fun e w'=> ∃v,e=.returned v∧∃(gm0:Nat),v=.map (some gm0)∧Cx (fun k=>k∈blocks [.mp p .str si Y]) O0 w w' [.mp gm0 .str si r]:=by
 unfold F.qed at hb;have hC:=Cx.startTk hO hio;have hsub:=hio.2.2;replace hC:=hC.argTk (by first | exact hsub | exact fun k hk=>hsub k (by simpa [blocks,Fact.blk] using hk)) b4;replace hC:=hC.argTk (by first | exact hsub | exact fun k hk=>hsub k (by simpa [blocks,Fact.blk] using hk)) b6;replace hC:=hC.argTk (by first | exact hsub | exact fun k hk=>hsub k (by simpa [blocks,Fact.blk] using hk)) b8;replace hC:=hC.argTk (by first | exact hsub | exact fun k hk=>hsub k (by simpa [blocks,Fact.blk] using hk)) a5;replace hC:=hC.argTk (by first | exact hsub | exact fun k hk=>hsub k (by simpa [blocks,Fact.blk] using hk)) a7;obtain ⟨rfl,d1,d2⟩:=b4.qad;obtain ⟨rfl,d3,d4⟩:=b6.qad;obtain ⟨rfl,d5,d6⟩:=b8.qad;obtain ⟨rfl,c4,c5⟩:=a5.qad;obtain ⟨rfl,c8,c9⟩:=a7.qad;clear hio hsub;obtain ⟨I,hI,hC⟩: ∃I:Nat→Prop,I=(fun k=>k∈blocks [.mp p .str si Y])∧Cx I O0 w w ([.ro (.sl si) [.slice q d.length u] d,.ro (.sl si) [.slice f c.length l] c,.ro (.sl (.sl si)) [.slice H z.length J] z,.ro (.sl (.sl si)) [.slice D y.length G] y,.ro (.sl (.pr si (.pr si si))) [.slice B x.length C] x,.mp p .str si Y]):=⟨_,r0,hC⟩;refine qao func55 r0 (by rw [ntmps55]; exact nb r0) fun KR j9=>?_;refine ws1 fun _ k0=>rg<|lo2 (hC.box (cs:=[.slice B x.length C,iv o,.slice D y.length G,.slice H z.length J]) r0 r0) ?_;rintro _ w9 ⟨g8,rfl,hC,hF,-⟩;refine lo2 (hC.box (cs:=[iv M,iv N,iv Q]) r0 r0) ?_;rintro _ o3 ⟨e7,rfl,hC,hF,-⟩;refine lo2 (hC.box (cs:=[.slice q d.length u]) r0 r0) ?_;rintro _ o4 ⟨e9,rfl,hC,hF,-⟩;refine lp (.map none) (qab r0)<|ln (k0 _ _ ?_);refine ws1 fun _ k1=>rg<|lo2 (hC.mkmp .str si) ?_;rintro _ o5 ⟨e3,rfl,hC,-,-⟩;refine lo2 (hC.alloc (cs:=[.map none]) zeroValue55 r0) ?_;rintro _ o6 ⟨d8,rfl,hC,hF,-⟩;refine ls (hC.setf (i:=0) (k:=0) (v:=.map (some e3)) r0 sizeOf55 r0 (by rw [Addr.add_zero']; exact r0) r0 r0) ?_;rintro o7 ⟨hC,hF⟩;refine ln (k1 _ _ ?_);refine ws1 fun _ k2=>rg<|lp (.pointer (some ((⟨g8,0,none⟩:Addr).add 1))) (qam (sz:=1) u67q r0 s3q (by decide) r0 r0)<|lv (iv o) (qar (hC.bx (i:=4) r0) i3q r0 r0) ?_;obtain ⟨o8,i9,hb⟩:=bd hb;refine lo2 (hC.make (s:=si) (n:=o) u22 type3 r0 r0 r0 r0 r0 (qai i9).1 (qai i9).2 (by decide)) ?_;rintro _ o9 ⟨A28,c29,rfl,hl30,hc31,hC,-,-⟩;refine lo2 (hC.alloc (cs:=[.slice none 0 0]) z22q r0) ?_;rintro _ p0 ⟨d9,rfl,hC,hF,-⟩;refine ls (hC.setf (i:=0) (k:=0) (v:=.slice A28 (((rZ o)).length) c29) r0 s22 r0 (by rw [Addr.add_zero']; exact r0) r0 r0) ?_;rintro p1 ⟨hC,hF⟩;refine ln (k2 _ _ ?_);refine wf1 fun g4 hE=>?_;have e2:g4 2=.slice f c.length l:=cg hE 2 r0;have e4:g4 4=.map (some p):=cg hE 4 r0;have e5:g4 5=pg g8:=cg hE 5 r0;have e6:g4 6=pg e7:=cg hE 6 r0;have e8:g4 8=pg e9:=cg hE 8 r0;have f0:g4 10=.map none:=cg hE 10 r0;have e1:g4 11=pg d8:=cg hE 11 r0;have e0:g4 12=pg d9:=cg hE 12 r0;refine ws1 fun _ k3=>?_;refine ws1 fun _ k4=>rg<|lv (.slice A28 (((rZ o)).length) c29) (qaf i22 e0 ((hC.bx (i:=0) r0).cell (j:=0) r0))<|lp (iv (((rZ o)).length:Int)) (qan (A:=A28) (n:=((rZ o)).length) (m:=c29) u22 r0)<|lp (iv 0) (qaa r0)<|ln (k4 _ _ ?_);obtain ⟨o41,hl0,f41,hf41,hb⟩:=bn hb;refine wc1 (fun E wv=> ∃(R:Int) (Z:List Int),E 2=.slice f c.length l∧E 4=.map (some p)∧E 5=pg g8∧E 6=pg e7∧E 8=pg e9∧E 10=.map none∧E 11=pg d8∧E 12=pg d9∧I64 R∧Cx I O0 w wv [.ro (.sl si) [.slice f c.length l] c,.mp p .str si Y,.box g8 67 [.slice B x.length C,iv o,.slice D y.length G,.slice H z.length J],.ro (.sl (.pr si (.pr si si))) [.slice B x.length C] x,.ro (.sl (.sl si)) [.slice D y.length G] y,.ro (.sl (.sl si)) [.slice H z.length J] z,.box e7 93 [iv M,iv N,iv Q],.box e9 22 [.slice q d.length u],.ro (.sl si) [.slice q d.length u] d,.box d8 55 [.map (some e3)],.mp e3 .str si ([]:List ((List UInt8)×Int)),.box d9 22 [.slice A28 (((rZ o)).length) c29],.own 3 si (.slice A28 (((rZ o)).length) c29) Z]∧f41 (R,Z)=some r) (fun _ k5=>?_) ?_;refine wb ?_;refine wl1 (fun m E wv=> ∃(R:Int) (Z:List Int),E 2=.slice f c.length l∧E 4=.map (some p)∧E 5=pg g8∧E 6=pg e7∧E 8=pg e9∧E 10=.map none∧E 11=pg d8∧E 12=pg d9∧E 28=iv (((rZ o)).length:Int)∧E 29=iv R∧I64 R∧Cx I O0 w wv [.ro (.sl si) [.slice f c.length l] c,.mp p .str si Y,.box g8 67 [.slice B x.length C,iv o,.slice D y.length G,.slice H z.length J],.ro (.sl (.pr si (.pr si si))) [.slice B x.length C] x,.ro (.sl (.sl si)) [.slice D y.length G] y,.ro (.sl (.sl si)) [.slice H z.length J] z,.box e7 93 [iv M,iv N,iv Q],.box e9 22 [.slice q d.length u],.ro (.sl si) [.slice q d.length u] d,.box d8 55 [.map (some e3)],.mp e3 .str si ([]:List ((List UInt8)×Int)),.box d9 22 [.slice A28 (((rZ o)).length) c29],.own 3 si (.slice A28 (((rZ o)).length) c29) Z]∧loopN m (F.qcp n o) (R,Z)=some o41) n ⟨0,(rZ o),e2,e4,e5,e6,e8,f0,e1,e0,r0,r0,i0,hC.sE [8,12,6,11,10,9,5,4,7,2,3,0,1],hl0⟩ ?_;have hbK0:=hb;clear hb hC hl0;rintro m44 p2 p3 ⟨R,Z,e2,e4,e5,e6,e8,f0,e1,e0,j0,h5,a8,hC,hl0⟩ K43 k6;obtain ⟨m44',o47,rfl,hb,hl0⟩:=qak hl0;unfold F.qcp at hb;refine ws1 fun _ k7=>rg<|lp _ (qaq h5 j0)<|ln (k7 _ _ ?_);refine ws1 fun _ k8=>?_;refine wc (t:=(decide (R<(((rZ o)).length:Int)))) (r0) (fun h6=>?_) (fun h6=>?_);replace hb:=tt h6 hb;refine ws2 (k8 _ _ ?_);refine ws1 fun _ k9=>?_;refine wb<|ws1 fun _ l0=>rg<|lp _ (qaa h5)<|lp (iv R) (qab r0)<|ln (l0 _ _ ?_);refine rg<|lv (.slice A28 (((rZ o)).length) c29) (qaf i22 e0 ((hC.bx (i:=11) r0).cell (j:=0) r0))<|lp (iv R) (qaa r0) ?_;obtain ⟨p4,h7,hb⟩:=bd hb;obtain ⟨ad55,cs56,hA,hc57,hr58⟩:=hC.elo (i:=12) r0 (qac h7).2;subst hA;refine lp (.pointer (some (ad55.add (R.toNat*1)))) (qae (a:=R) u22 s3q r0 r0 (by rw [(hC.ow (i:=12) r0).qad.1]; exact (qac h7).1))<|ls (hC.put (i:=12) r0 r0 s3q (k:=R.toNat) (a:=(-1)) (by have:=(qac h7).1; simp at this⊢; omega) (⟨r0,I64.wr i11⟩) r0 r0 r0) ?_;rintro p5 ⟨hC,hF⟩;refine ln (k9 _ _ ?_);refine rg ?_;obtain ⟨h8,j1,hb⟩:=bd hb;refine lp (iv h8) (qaj (a:=R) (b:=1) h5 r0 j1)<|lp (iv h8) (qaa r0)<|ln ?_;obtain rfl:=os hb;exact k6 m44' _ _ (Qa _) ⟨h8,(Z.set R.toNat (-1)),e2,e4,e5,e6,e8,f0,e1,e0,j0,r0,(qah j1),hC.sE [0,1,2,3,4,5,6,7,8,9,10,11,12],lN hl0⟩;replace hb:=tf h6 hb;refine we r0 ?_;obtain rfl:=os hb;obtain rfl:=(lX hl0).symm;exact k5 _ _ ⟨R,Z,e2,e4,e5,e6,e8,f0,e1,e0,a8,hC.sE [0,1,2,3,4,5,6,7,8,9,10,11,12],hbK0⟩;clear hb hC hl0;rintro p6 p7 ⟨R,Z,e2,e4,e5,e6,e8,f0,e1,e0,a8,hC,hb⟩;subst hf41;refine k3 _ _<|ws1 fun _ l1=>rg<|lv (.slice q d.length u) (qaf i22 e8 ((hC.bx (i:=7) r0).cell (j:=0) r0))<|lp (iv (d.length:Int)) (qan (A:=q) (n:=d.length) (m:=u) u22 r0) ?_;obtain ⟨p8,j2,hb⟩:=bd hb;refine lo2 (hC.make (s:=(.int .u8)) (n:=(d.length:Int)) u79 type5 r0 r0 r0 r0 r0 (qai j2).1 (qai j2).2 (by decide)) ?_;rintro _ p9 ⟨A67,c68,rfl,hl69,hc70,hC,-,-⟩;refine lo2 (hC.alloc (cs:=[.slice none 0 0]) zeroValue79 r0) ?_;rintro _ q0 ⟨f3,rfl,hC,hF,-⟩;refine ls (hC.setf (i:=0) (k:=0) (v:=.slice A67 (((rZ d.length)).length) c68) r0 sizeOf79 r0 (by rw [Addr.add_zero']; exact r0) r0 r0) ?_;rintro q1 ⟨hC,hF⟩;refine ln (l1 _ _ ?_);refine ws1 fun _ l3=>rg<|lo2 (hC.alloc (cs:=[iv 0]) z3q r0) ?_;rintro _ q2 ⟨f1,rfl,hC,hF,-⟩;refine ls (hC.setf (i:=0) (k:=0) (v:=iv 0) r0 s3q r0 (by rw [Addr.add_zero']; exact r0) r0 r0) ?_;rintro q3 ⟨hC,hF⟩;refine ln (l3 _ _ ?_);refine ws1 fun _ l4=>rg<|lo2 (hC.alloc (cs:=[.nilFunc]) zeroValue1 r0) ?_;rintro _ q4 ⟨f2,rfl,hC,hF,-⟩;refine ln (l4 _ _ ?_);refine ws1 fun _ l5=>rg<|lp (.func (.func 66) #[] #[pg e7,pg d9,pg g8,pg f2,pg e9,pg f3,pg d8,pg f1]) (qgt (map_of (qcg e6 (qcg e0 (qcg e5 (qcg r0 (qcg e8 (qcg r0 (qcg e1 (qcg r0 m2_nil))))))))))<|ls (hC.setf (i:=0) (k:=0) (v:=.func (.func 66) #[] #[pg e7,pg d9,pg g8,pg f2,pg e9,pg f3,pg d8,pg f1]) r0 sizeOf1 r0 (by rw [Addr.add_zero']; exact r0) r0 r0) ?_;rintro q5 ⟨hC,hF⟩;replace hC:=hC.freezeB (i:=10) r0 (hC.qdr hI (i:=10) r0 (Qe.2 ⟨fun g hg=>⟨5,_,r0,by decide,hg⟩,fun _ h=>absurd h Qh⟩));replace hC:=hC.freezeB (i:=15) r0 (hC.qdr hI (i:=15) r0 (Qe.2 ⟨fun g hg=>⟨5,_,r0,by decide,hg⟩,fun _ h=>absurd h Qh⟩));replace hC:=hC.freezeB (i:=6) r0 (hC.qdr hI (i:=6) r0 (Qe.2 ⟨fun g hg=>⟨5,_,r0,by decide,hg⟩,fun _ h=>absurd h Qh⟩));replace hC:=hC.freezeB (i:=0) r0 (hC.qdr hI (i:=0) r0 (Qe.2 ⟨fun g hg=>⟨5,_,r0,by decide,hg⟩,fun _ h=>absurd h Qh⟩));replace hC:=hC.freezeB (i:=11) r0 (hC.qdr hI (i:=11) r0 (Qe.2 ⟨fun g hg=>⟨5,_,r0,by decide,hg⟩,fun _ h=>absurd h Qh⟩));replace hC:=hC.freezeB (i:=2) r0 (hC.qdr hI (i:=2) r0 (Qe.2 ⟨fun g hg=>⟨5,_,r0,by decide,hg⟩,fun _ h=>absurd h Qh⟩));replace hC:=hC.freezeB (i:=13) r0 (hC.qdr hI (i:=13) r0 (Qe.2 ⟨fun g hg=>⟨5,_,r0,by decide,hg⟩,fun _ h=>absurd h Qh⟩));refine ln (l5 _ _ ?_);refine ws1 fun _ l6=>?_;refine ws1 fun _ l7=>rg<|lp _ (qaa e4) ?_;obtain ⟨es90,hes91,hC,hok92⟩:=hC.mpopen r0 (i:=5) r0;refine lo2 (hC.mrange (i:=5) r0 u55 r0) ?_;rintro _ q6 ⟨r93,rfl,hC,-⟩;refine ln (l7 _ _ ?_);obtain ⟨d0,c6,i1⟩:=foldM_open hb;refine wc1 (fun E wv=> ∃(U:List ((List UInt8)×Int)) (a2:List Int) (a0:List Int) (S:Int),E 10=.map none∧E 11=pg d8∧I64 S∧Cx I O0 w wv [.rbox d8 55 [.map (some e3)],.mp e3 .str si U,.obj p (pobj .str si es90)]∧(some (mcan U):Option ((List ((List UInt8)×Int))))=some r) (fun _ l8=>?_) ?_;refine wb ?_;refine wl1 (fun m E wv=> ∃(a1:Array Nat) (b1:List ((List UInt8)×Int)) (U:List ((List UInt8)×Int)) (a2:List Int) (a0:List Int) (S:Int),E 2=.slice f c.length l∧E 10=.map none∧E 11=pg d8∧E 12=pg d9∧E 15=pg f1∧E 16=pg f2∧E 41=pg r93∧I64 S∧Cx I O0 w wv [.ro (.sl si) [.slice f c.length l] c,.rbox d8 55 [.map (some e3)],.mp e3 .str si U,.rbox d9 22 [.slice A28 (((rZ o)).length) c29],.own 3 si (.slice A28 (((rZ o)).length) c29) a2,.box f1 3 [iv S],.rbox f2 1 [.func (.func 66) #[] #[pg e7,pg d9,pg g8,pg f2,pg e9,pg f3,pg d8,pg f1]],.rbox e7 93 [iv M,iv N,iv Q],.rbox g8 67 [.slice B x.length C,iv o,.slice D y.length G,.slice H z.length J],.ro (.sl (.pr si (.pr si si))) [.slice B x.length C] x,.ro (.sl (.sl si)) [.slice D y.length G] y,.ro (.sl (.sl si)) [.slice H z.length J] z,.rbox e9 22 [.slice q d.length u],.ro (.sl si) [.slice q d.length u] d,.rbox f3 79 [.slice A67 (((rZ d.length)).length) c68],.own 5 (.int .u8) (.slice A67 (((rZ d.length)).length) c68) a0,.obj r93 (mit p es90.length a1),.obj p (pobj .str si es90)]∧((lfi a1 es90 0).map (·.2)).Perm b1∧b1.length=m∧∀l2,l2.Perm b1→(foldG (F.qco n x o y z M N Q c d) (U,a2,a0,S) l2).bind d0=some r) es90.length ⟨#[],es90,([]:List ((List UInt8)×Int)),Z,(rZ d.length),0,e2,f0,e1,e0,r0,r0,r0,i0,hC.sE [5,14,15,16,17,2,1,11,7,8,9,10,12,13,3,4,0,6],lfi_start _,r0,fun l2 h2=>i1 l2 (h2.trans hes91)⟩ ?_;clear hb hC i1;rintro m98 q7 q8 ⟨a1,b1,U,a2,a0,S,e2,f0,e1,e0,f5,f6,f4,a3,hC,c7,d7,b2⟩ K97 l9;refine ws1 fun _ j3=>rg ?_;rcases hC.mnext (P:=prog) (i:=17) (j:=16) rfl rfl c7 with ⟨hle,hY⟩ | ⟨K,lf102,q103,q9,he105,hp106,hp107,hY,j4,hF⟩
 refine lv (.tuple #[.bool false]) (hY f4) ?_;clear hY;refine lp (.bool false) (qay r0 r0)<|ln (j3 _ _ ?_);refine ws1 fun _ r1=>?_;refine Wc.cond_false (r0) ?_;refine we r0 ?_;obtain rfl:=hle;have hb:=b2 [] (.refl _);subst c6;exact l8 _ _ ⟨U,a2,a0,S,f0,e1,a3,hC.sE [1,2,17],hb⟩;replace hC:=j4;clear j4 hF;obtain ⟨c3,hb0⟩:=foldG_ex (b2 _ hp106.symm);have hb:=hb0;unfold F.qco at hb;have hk109:=hok92 _ (Zz he105);refine lv (.tuple #[.bool true,.string ⟨(K.1).toArray⟩,iv K.2]) (hY f4) ?_;clear hY;refine lp (.bool true) (qay r0 r0)<|ln (j3 _ _ ?_);refine ws1 fun _ m0=>?_;refine Wc.cond_true (r0) ?_;refine ws2 (m0 _ _ ?_);refine wb<|ws1 fun _ m1=>rg<|lv (.tuple #[.string ⟨(K.1).toArray⟩,iv K.2]) (hC.mentry (i:=17) (j:=16) r0 r0 he105 f4)<|lp (.string ⟨(K.1).toArray⟩) (qay r0 r0)<|lp (iv K.2) (qay r0 r0)<|lp (.string ⟨(K.1).toArray⟩) (qab r0)<|lp (iv K.2) (qab r0)<|ln (m1 _ _ ?_);refine ws1 fun _ m2=>?_;refine ws1 fun _ m3=>rg<|lp _ (qaa e2)<|lp (iv (c.length:Int)) (qan (A:=f) (n:=c.length) (m:=l) u22 r0)<|lp (iv 0) (qaa r0)<|ln (m3 _ _ ?_);refine wf1 fun g7 hE=>?_;have e2:=cg hE 2 e2;have f0:=cg hE 10 f0;have e1:=cg hE 11 e1;have e0:=cg hE 12 e0;have f5:=cg hE 15 f5;have f6:=cg hE 16 f6;have f9:g7 17=.string ⟨(K.1).toArray⟩:=cg hE 17 r0;have g0:g7 18=iv K.2:=cg hE 18 r0;have f4:=cg hE 41 f4;have g3:g7 43=.bool true:=cg hE 43 r0;have g1:g7 47=.slice f c.length l:=cg hE 47 r0;have g2:g7 48=iv (c.length:Int):=cg hE 48 r0;have f7:g7 49=iv 0:=cg hE 49 r0;obtain ⟨o115,hl2,hb⟩:=bd hb;refine wc1 (fun E wv=> ∃(L:Int) (T:List Int),E 2=.slice f c.length l∧E 10=.map none∧E 11=pg d8∧E 12=pg d9∧E 15=pg f1∧E 16=pg f2∧E 17=.string ⟨(K.1).toArray⟩∧E 18=iv K.2∧E 41=pg r93∧E 43=.bool true∧E 47=.slice f c.length l∧E 48=iv (c.length:Int)∧E 49=iv L∧I64 L∧Cx I O0 w wv [.ro (.sl si) [.slice f c.length l] c,.rbox d8 55 [.map (some e3)],.mp e3 .str si U,.rbox d9 22 [.slice A28 (((rZ o)).length) c29],.own 3 si (.slice A28 (((rZ o)).length) c29) T,.box f1 3 [iv S],.rbox f2 1 [.func (.func 66) #[] #[pg e7,pg d9,pg g8,pg f2,pg e9,pg f3,pg d8,pg f1]],.rbox e7 93 [iv M,iv N,iv Q],.rbox g8 67 [.slice B x.length C,iv o,.slice D y.length G,.slice H z.length J],.ro (.sl (.pr si (.pr si si))) [.slice B x.length C] x,.ro (.sl (.sl si)) [.slice D y.length G] y,.ro (.sl (.sl si)) [.slice H z.length J] z,.rbox e9 22 [.slice q d.length u],.ro (.sl si) [.slice q d.length u] d,.rbox f3 79 [.slice A67 (((rZ d.length)).length) c68],.own 5 (.int .u8) (.slice A67 (((rZ d.length)).length) c68) a0,.obj r93 (mit p es90.length (a1.push q103)),.obj p (pobj .str si es90)]∧((F.qau n M N Q T x o y z d a0 U K.2).bind fun f8=>((loopN n (F.qbr n c) (0,f8.1)).bind fun o156=>match o156 with | (X,V)=>some (.inl (f8.2.2,V,f8.2.1,K.2))):Option (((List ((List UInt8)×Int))×(List Int)×(List Int)×Int)⊕(Unit)))=some c3) (fun _ m4=>?_) ?_;refine wb ?_;refine wl1 (fun m E wv=> ∃(L:Int) (T:List Int),E 2=.slice f c.length l∧E 10=.map none∧E 11=pg d8∧E 12=pg d9∧E 15=pg f1∧E 16=pg f2∧E 17=.string ⟨(K.1).toArray⟩∧E 18=iv K.2∧E 41=pg r93∧E 43=.bool true∧E 47=.slice f c.length l∧E 48=iv (c.length:Int)∧E 49=iv L∧I64 L∧Cx I O0 w wv [.ro (.sl si) [.slice f c.length l] c,.rbox d8 55 [.map (some e3)],.mp e3 .str si U,.rbox d9 22 [.slice A28 (((rZ o)).length) c29],.own 3 si (.slice A28 (((rZ o)).length) c29) T,.box f1 3 [iv S],.rbox f2 1 [.func (.func 66) #[] #[pg e7,pg d9,pg g8,pg f2,pg e9,pg f3,pg d8,pg f1]],.rbox e7 93 [iv M,iv N,iv Q],.rbox g8 67 [.slice B x.length C,iv o,.slice D y.length G,.slice H z.length J],.ro (.sl (.pr si (.pr si si))) [.slice B x.length C] x,.ro (.sl (.sl si)) [.slice D y.length G] y,.ro (.sl (.sl si)) [.slice H z.length J] z,.rbox e9 22 [.slice q d.length u],.ro (.sl si) [.slice q d.length u] d,.rbox f3 79 [.slice A67 (((rZ d.length)).length) c68],.own 5 (.int .u8) (.slice A67 (((rZ d.length)).length) c68) a0,.obj r93 (mit p es90.length (a1.push q103)),.obj p (pobj .str si es90)]∧loopN m (F.qcd n c K) (L,T)=some o115) n ⟨0,a2,e2,f0,e1,e0,f5,f6,f9,g0,f4,g3,g1,g2,f7,i0,hC.sE [0,1,2,3,4,5,6,7,8,9,10,11,12,13,14,15,16,17],hl2⟩ ?_;have hbK2:=hb;clear hb hC hl2;rintro m118 r2 r3 ⟨L,T,e2,f0,e1,e0,f5,f6,f9,g0,f4,g3,g1,g2,f7,a9,hC,hl2⟩ K117 m5;obtain ⟨m118',o121,rfl,hb,hl2⟩:=qak hl2;unfold F.qcd at hb;refine ws1 fun _ m6=>rg<|lp _ (qaq f7 g2)<|ln (m6 _ _ ?_);refine ws1 fun _ m7=>?_;refine wc (t:=(decide (L<(c.length:Int)))) (r0) (fun i2=>?_) (fun i2=>?_);replace hb:=tt i2 hb;refine ws2 (m7 _ _ ?_);refine ws1 fun _ m8=>?_;refine wb<|ws1 fun _ m9=>rg<|lp _ (qaa f7) ?_;obtain ⟨g5,j5,hb⟩:=bd hb;obtain ⟨ad129,cs130,hA,hc131,hr132⟩:=hC.elr (i:=0) r0 (qac j5).2;subst hA;refine lp (.pointer (some (ad129.add (L.toNat*1)))) (qae (a:=L) u22 s3q g1 f7 (qac j5).1) ?_;obtain ⟨rfl,hr132'⟩:=hr132;refine lv (iv g5) (qaf i3q r0 (hc131 0 _ r0))<|lp (iv L) (qab r0)<|lp (iv g5) (qab r0)<|ln (m9 _ _ ?_);refine wr2 [54] (frm [54] ([]:List Fact) [.own 3 si (.slice A28 (((rZ o)).length) c29) T]) (fun _=>rfl) mixed (by decide+kernel) (by decide+kernel) fun h1 hw133=>?_;replace hC:=hC.step (Fr.qbo hw133);have hM:=Fr.refl (fun k=>k∈blocks ([]:List Fact)) h1;clear hw133;have hS:=hC;have hD:Fr (fun k=>k∈blocks (([]:List Fact)++[.own 3 si (.slice A28 (((rZ o)).length) c29) T])) h1 h1:=hM.wide;have n0:Beside (([]:List Fact)++[.own 3 si (.slice A28 (((rZ o)).length) c29) T]) h1 (.slice A28 (((rZ o)).length) c29):=Beside.of (i:=0) r0;refine ms2 hD (v:=.slice A28 (((rZ o)).length) c29) (fun _ hF=>qaf i22 e0 ((hS.rbx2 (i:=3) r0 [4] hF).cell (j:=0) r0))<|mp (iv g5) (qaa r0)<|mp (.string ⟨(K.1).toArray⟩) (qaa f9)<|mp (iv L) (qaa r0) ?_;obtain ⟨g9,i3,hb⟩:=bd hb;refine mp (.int .u8 g9) (pu_six (k:=K.1) (i:=L) u9q r0 r0 i3)<|mp (iv g9) (pu_conv (k:=.u8) (a:=g9) u5 u3q r0 (small_u8 (u8_rng i3)).wr) ?_;obtain ⟨r4,i4,hb⟩:=bd hb;obtain ⟨ad139,cs140,hA,ho143,hc141,hr142⟩:=hS.elo2 (i:=4) r0 (qac i4).2 [] (by decide);subst hA;refine mp (.pointer (some (ad139.add (g5.toNat*1)))) (qae (a:=g5) u22 s3q r0 r0 (by rw [(hC.ow (i:=4) r0).qad.1]; exact (qac i4).1))<|ms1 hD (hC.put (i:=4) r0 r0 s3q (k:=g5.toNat) (a:=g9) (by have:=(qac i4).1; simp at this⊢; omega) (⟨r0,I64.wr (small_u8 (u8_rng i3))⟩) r0 r0 r0) ?_;rintro r8 ⟨hC,hF⟩;replace hD:=hD.beside n0 hF;refine ⟨hD,?_⟩;refine mn ?_;clear hS hM;clear hD;refine m8 _ _<|rg ?_;obtain ⟨i5,j6,hb⟩:=bd hb;refine lp (iv i5) (qaj (a:=L) (b:=1) f7 r0 j6)<|lp (iv i5) (qaa r0)<|ln ?_;obtain rfl:=os hb;exact m5 m118' _ _ (Qa _) ⟨i5,(T.set g5.toNat g9),e2,f0,e1,e0,f5,f6,f9,g0,f4,g3,g1,g2,r0,(qah j6),hC.sE [0,1,2,3,4,5,6,7,8,9,10,11,12,13,14,15,16,17],lN hl2⟩;replace hb:=tf i2 hb;refine we r0 ?_;obtain rfl:=os hb;obtain rfl:=(lX hl2).symm;exact m4 _ _ ⟨L,T,e2,f0,e1,e0,f5,f6,f9,g0,f4,g3,g1,g2,f7,a9,hC.sE [0,1,2,3,4,5,6,7,8,9,10,11,12,13,14,15,16,17],hbK2⟩;clear hb hC hl2;rintro r9 s0 ⟨L,T,e2,f0,e1,e0,f5,f6,f9,g0,f4,g3,g1,g2,f7,a9,hC,hb⟩;refine m2 _ _<|ws1 fun _ n1=>rg<|lp _ (qaa g0)<|ls (hC.setf (i:=5) (k:=0) (v:=iv K.2) r0 s3q r0 (by rw [Addr.add_zero']; exact f5) r0 r0) ?_;rintro n2 ⟨hC,hF⟩;refine ln (n1 _ _ ?_);refine ws1 fun _ n3=>rg<|lv (.func (.func 66) #[] #[pg e7,pg d9,pg g8,pg f2,pg e9,pg f3,pg d8,pg f1]) (qaf isAgg1 f6 ((hC.rbx (i:=6) r0).cell (j:=0) r0)) ?_;replace hC:Cx I O0 w n2 ([.own 3 si (.slice A28 (((rZ o)).length) c29) T,.own 5 (.int .u8) (.slice A67 (((rZ d.length)).length) c68) a0,.mp e3 .str si U,.box f1 3 [iv K.2]]++[.ro (.sl si) [.slice f c.length l] c,.rbox d8 55 [.map (some e3)],.rbox d9 22 [.slice A28 (((rZ o)).length) c29],.rbox f2 1 [.func (.func 66) #[] #[pg e7,pg d9,pg g8,pg f2,pg e9,pg f3,pg d8,pg f1]],.rbox e7 93 [iv M,iv N,iv Q],.rbox g8 67 [.slice B x.length C,iv o,.slice D y.length G,.slice H z.length J],.ro (.sl (.pr si (.pr si si))) [.slice B x.length C] x,.ro (.sl (.sl si)) [.slice D y.length G] y,.ro (.sl (.sl si)) [.slice H z.length J] z,.rbox e9 22 [.slice q d.length u],.ro (.sl si) [.slice q d.length u] d,.rbox f3 79 [.slice A67 (((rZ d.length)).length) c68],.obj r93 (mit p es90.length (a1.push q103)),.obj p (pobj .str si es90)]):=hC.sE [4,15,2,5,0,1,3,6,7,8,9,10,11,12,13,14,16,17];obtain ⟨f8,n4,hb⟩:=bd hb;refine lc (⟨_,_,qcu (vs:=[pg e7,pg d9,pg g8,pg f2,pg e9,pg f3,pg d8,pg f1]) (ca:=#[pg e7,pg d9,pg g8,pg f2,pg e9,pg f3,pg d8,pg f1]) call66 r0 r0 r0,qcolor_problem_extend_c1_ok n hC.lt b9 c0 c1 (hC.rd (i:=10) r0) c2 (hC.rd (i:=11) r0) (hC.rd (i:=12) r0) (hC.rd (i:=14) r0) (qaz hk109.2) (hC.rb (i:=8) r0) (hC.rb (i:=6) r0) (hC.rb (i:=9) r0) (hC.rb (i:=7) r0) (hC.rb (i:=13) r0) (hC.rb (i:=15) r0) (hC.rb (i:=5) r0) hC.give n4⟩) ?_;rintro _ s1 ⟨rfl,hK⟩;replace hC:=hC.back hK;refine ln (n3 _ _ ?_);refine ws1 fun _ n5=>rg<|lp _ (qaa e2)<|lp (iv (c.length:Int)) (qan (A:=f) (n:=c.length) (m:=l) u22 r0)<|lp (iv 0) (qaa r0)<|ln (n5 _ _ ?_);obtain ⟨o156,hl3,hb⟩:=bd hb;refine wc1 (fun E wv=> ∃(X:Int) (V:List Int),E 2=.slice f c.length l∧E 10=.map none∧E 11=pg d8∧E 12=pg d9∧E 15=pg f1∧E 16=pg f2∧E 17=.string ⟨(K.1).toArray⟩∧E 18=iv K.2∧E 41=pg r93∧E 43=.bool true∧E 47=.slice f c.length l∧E 48=iv (c.length:Int)∧E 49=iv L∧E 65=.slice f c.length l∧E 66=iv (c.length:Int)∧E 67=iv X∧I64 X∧Cx I O0 w wv [.ro (.sl si) [.slice f c.length l] c,.rbox d8 55 [.map (some e3)],.mp e3 .str si f8.2.2,.rbox d9 22 [.slice A28 (((rZ o)).length) c29],.own 3 si (.slice A28 (((rZ o)).length) c29) V,.box f1 3 [iv K.2],.rbox f2 1 [.func (.func 66) #[] #[pg e7,pg d9,pg g8,pg f2,pg e9,pg f3,pg d8,pg f1]],.rbox e7 93 [iv M,iv N,iv Q],.rbox g8 67 [.slice B x.length C,iv o,.slice D y.length G,.slice H z.length J],.ro (.sl (.pr si (.pr si si))) [.slice B x.length C] x,.ro (.sl (.sl si)) [.slice D y.length G] y,.ro (.sl (.sl si)) [.slice H z.length J] z,.rbox e9 22 [.slice q d.length u],.ro (.sl si) [.slice q d.length u] d,.rbox f3 79 [.slice A67 (((rZ d.length)).length) c68],.own 5 (.int .u8) (.slice A67 (((rZ d.length)).length) c68) f8.2.1,.obj r93 (mit p es90.length (a1.push q103)),.obj p (pobj .str si es90)]∧(some (.inl (f8.2.2,V,f8.2.1,K.2)):Option (((List ((List UInt8)×Int))×(List Int)×(List Int)×Int)⊕(Unit)))=some c3) (fun _ n6=>?_) ?_;refine wb ?_;refine wl1 (fun m E wv=> ∃(X:Int) (V:List Int),E 2=.slice f c.length l∧E 10=.map none∧E 11=pg d8∧E 12=pg d9∧E 15=pg f1∧E 16=pg f2∧E 17=.string ⟨(K.1).toArray⟩∧E 18=iv K.2∧E 41=pg r93∧E 43=.bool true∧E 47=.slice f c.length l∧E 48=iv (c.length:Int)∧E 49=iv L∧E 65=.slice f c.length l∧E 66=iv (c.length:Int)∧E 67=iv X∧I64 X∧Cx I O0 w wv [.ro (.sl si) [.slice f c.length l] c,.rbox d8 55 [.map (some e3)],.mp e3 .str si f8.2.2,.rbox d9 22 [.slice A28 (((rZ o)).length) c29],.own 3 si (.slice A28 (((rZ o)).length) c29) V,.box f1 3 [iv K.2],.rbox f2 1 [.func (.func 66) #[] #[pg e7,pg d9,pg g8,pg f2,pg e9,pg f3,pg d8,pg f1]],.rbox e7 93 [iv M,iv N,iv Q],.rbox g8 67 [.slice B x.length C,iv o,.slice D y.length G,.slice H z.length J],.ro (.sl (.pr si (.pr si si))) [.slice B x.length C] x,.ro (.sl (.sl si)) [.slice D y.length G] y,.ro (.sl (.sl si)) [.slice H z.length J] z,.rbox e9 22 [.slice q d.length u],.ro (.sl si) [.slice q d.length u] d,.rbox f3 79 [.slice A67 (((rZ d.length)).length) c68],.own 5 (.int .u8) (.slice A67 (((rZ d.length)).length) c68) f8.2.1,.obj r93 (mit p es90.length (a1.push q103)),.obj p (pobj .str si es90)]∧loopN m (F.qbr n c) (X,V)=some o156) n ⟨0,f8.1,e2,f0,e1,e0,f5,f6,f9,g0,f4,g3,g1,g2,f7,r0,r0,r0,i0,hC.sE [4,5,2,6,0,3,7,8,9,10,11,12,13,14,15,1,16,17],hl3⟩ ?_;have hbK3:=hb;clear hb hC hl3;rintro m159 s2 s3 ⟨X,V,e2,f0,e1,e0,f5,f6,f9,g0,f4,g3,g1,g2,f7,h3,h4,h0,b0,hC,hl3⟩ K158 n7;obtain ⟨m159',o162,rfl,hb,hl3⟩:=qak hl3;unfold F.qbr at hb;refine ws1 fun _ n8=>rg<|lp _ (qaq h0 h4)<|ln (n8 _ _ ?_);refine ws1 fun _ n9=>?_;refine wc (t:=(decide (X<(c.length:Int)))) (r0) (fun i6=>?_) (fun i6=>?_);replace hb:=tt i6 hb;refine ws2 (n9 _ _ ?_);refine ws1 fun _ o0=>?_;refine wb<|ws1 fun _ o1=>rg ?_;obtain ⟨g6,j7,hb⟩:=bd hb;obtain ⟨ad170,cs171,hA,hc172,hr173⟩:=hC.elr (i:=0) r0 (qac j7).2;subst hA;refine lp (.pointer (some (ad170.add (X.toNat*1)))) (qae (a:=X) u22 s3q h3 h0 (qac j7).1) ?_;obtain ⟨rfl,hr173'⟩:=hr173;refine lv (iv g6) (qaf i3q r0 (hc172 0 _ r0))<|lp (iv g6) (qab r0)<|ln (o1 _ _ ?_);refine rg<|lv (.slice A28 (((rZ o)).length) c29) (qaf i22 e0 ((hC.rbx (i:=3) r0).cell (j:=0) r0))<|lp (iv g6) (qaa r0) ?_;obtain ⟨s4,i7,hb⟩:=bd hb;obtain ⟨ad176,cs177,hA,hc178,hr179⟩:=hC.elo (i:=4) r0 (qac i7).2;subst hA;refine lp (.pointer (some (ad176.add (g6.toNat*1)))) (qae (a:=g6) u22 s3q r0 r0 (by rw [(hC.ow (i:=4) r0).qad.1]; exact (qac i7).1))<|ls (hC.put (i:=4) r0 r0 s3q (k:=g6.toNat) (a:=(-1)) (by have:=(qac i7).1; simp at this⊢; omega) (⟨r0,I64.wr i11⟩) r0 r0 r0) ?_;rintro s6 ⟨hC,hF⟩;refine ln (o0 _ _ ?_);refine rg ?_;obtain ⟨i8,j8,hb⟩:=bd hb;refine lp (iv i8) (qaj (a:=X) (b:=1) h0 r0 j8)<|lp (iv i8) (qaa r0)<|ln ?_;obtain rfl:=os hb;exact n7 m159' _ _ (Qa _) ⟨i8,(V.set g6.toNat (-1)),e2,f0,e1,e0,f5,f6,f9,g0,f4,g3,g1,g2,f7,h3,h4,r0,(qah j8),hC.sE [0,1,2,3,4,5,6,7,8,9,10,11,12,13,14,15,16,17],lN hl3⟩;replace hb:=tf i6 hb;refine we r0 ?_;obtain rfl:=os hb;obtain rfl:=(lX hl3).symm;exact n6 _ _ ⟨X,V,e2,f0,e1,e0,f5,f6,f9,g0,f4,g3,g1,g2,f7,h3,h4,h0,b0,hC.sE [0,1,2,3,4,5,6,7,8,9,10,11,12,13,14,15,16,17],hbK3⟩;clear hb hC hl3;rintro s7 s8 ⟨X,V,e2,f0,e1,e0,f5,f6,f9,g0,f4,g3,g1,g2,f7,h3,h4,h0,b0,hC,hb⟩;obtain rfl:=os hb;exact l9 lf102.length _ _ (by have h9:=hp106.length_eq; rw [Xe] at h9; omega) ⟨(a1.push q103),lf102,f8.2.2,V,f8.2.1,K.2,e2,f0,e1,e0,f5,f6,f4,(qaz hk109.2),hC.sE [0,1,2,3,4,5,6,7,8,9,10,11,12,13,14,15,16,17],hp107,r0,fun l2 h2=>foldG_inl hb0 (b2 (K::l2) ((h2.cons K).trans hp106.symm))⟩;clear hb hC i1;rintro s9 t0 ⟨U,a2,a0,S,f0,e1,a3,hC,hb⟩;refine l6 _ _<|ws1 fun _ o2=>rg<|lv (.map (some e3)) (qaf isAgg55 e1 ((hC.rbx (i:=0) r0).cell (j:=0) r0))<|lp (.map (some e3)) (qab r0)<|ln (o2 _ _ ?_);replace hC:=hC.mpperm (i:=1) r0 (mcan_perm _);obtain rfl:=os hb;subst hI;refine wr1 (j9 _ _ ?_);refine ⟨_,res1 results55 (tV (.map (some e3)) r0),_,r0,e3,r0,hC.sE [1]⟩
