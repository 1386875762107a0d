import Derived.Test.YtkjpldmelafooaaPSsm
import Derived.Test.YtkjpldmelafooaaPHbraid
import Derived.Test.YtkjpldmelafooaaPTly
set_option linter.all false
namespace Go.Proofs.Ytkjpldmelafooaa
open Ev
namespace Pg
theorem cnt_mono {N:Nat} {p q:Nat→Prop} (h: ∀k,k<N→p k→q k):cnt N p≤cnt N q:=by
 induction N with
 | zero=>exact Nat.le_refl _
 | succ n ih=>
  have:=ih fun k hk=>h k (by omega)
  by_cases e:p n
  · rw [qbn e,qbn (h n (by omega) e)]; omega
  ·
   rw [qbh e]
   by_cases e2:q n
   · rw [qbn e2]; omega
   · rw [qbh e2]; omega
open Classical in
theorem cnt_inj {N M:Nat} {p q:Nat→Prop} (f:Nat→Nat) (hm: ∀x,x<N→p x→f x<M∧q (f x)) (hi: ∀x y,x<N→y<N→p x→p y→f x=f y→x=y):cnt N p≤cnt M q:=by
 have hnd:(((List.range N).filter fun h=>decide (p h)).map f).Nodup:=by
  rw [List.Nodup,List.pairwise_map]
  refine List.Pairwise.imp_of_mem (fun {a b} ha hb hab e=>hab ?_) (List.Pairwise.filter _ (List.nodup_range (n:=N)))
  obtain ⟨a1,a2⟩:=List.mem_filter.1 ha
  obtain ⟨b1,b2⟩:=List.mem_filter.1 hb
  exact hi a b (List.mem_range.1 a1) (List.mem_range.1 b1) (of_decide_eq_true a2) (of_decide_eq_true b2) e
 have:=List.Nodup.length_le_of_subset hnd (l₂:=(List.range M).filter fun h=>decide (q h)) (fun x hx=>by
  obtain ⟨a,ha,rfl⟩:=List.mem_map.1 hx
  obtain ⟨a1,a2⟩:=List.mem_filter.1 ha
  obtain ⟨b1,b2⟩:=hm a (List.mem_range.1 a1) (of_decide_eq_true a2)
  exact List.mem_filter.2 ⟨List.mem_range.2 b1,dT b2⟩)
 rw [List.length_map] at this
 unfold cnt
 exact this
end Pg
namespace Gl
open Gar Pg Ht
def tt (w:List Int):Nat→Nat→Nat
 | 0,p=>p
 | k+1,p=>tt w k (tr (w.getD k 0).natAbs p)
def fo (s:Nat) (w:List Int) (p:Nat):Nat:=turnN (Vv s w 0 p) 2
def opos (w:List Int) (x:Nat):Nat:=if x%4=ouL (w.getD (x/ 4) 0) then (w.getD (x/ 4) 0).natAbs-1 else (w.getD (x/ 4) 0).natAbs
def sto (w:List Int) (x:Nat):Nat:=tt w (x/ 4+1) (opos w x)
noncomputable def ky (s:Nat) (w:List Int) (h:Nat):Nat:=key (4*w.length) (nx (clm s w)) h
theorem turn_io (k:Nat) (v:Int):turnN (4*k+inL v) 2=4*k+ouR v∧turnN (4*k+inR v) 2=4*k+ouL v:=by
 unfold turnN inL inR ouL ouR
 by_cases q:0<v
 · simp only [if_pos q]; omega
 · simp only [if_neg q]; omega
theorem opos_at (w:List Int) (k:Nat):opos w (4*k+ouL (w.getD k 0))=(w.getD k 0).natAbs-1∧opos w (4*k+ouR (w.getD k 0))=(w.getD k 0).natAbs:=by
 obtain ⟨_,_,a3,a4⟩:=io_lt (w.getD k 0)
 have hd:ouR (w.getD k 0)≠ouL (w.getD k 0):=by
  unfold ouL ouR
  by_cases q:0<w.getD k 0
  · rw [if_pos q,if_pos q]; decide
  · rw [if_neg q,if_neg q]; decide
 unfold opos
 rw [show (4*k+ouL (w.getD k 0))/ 4=k by omega,show (4*k+ouR (w.getD k 0))/ 4=k by omega,show (4*k+ouL (w.getD k 0))%4=ouL (w.getD k 0) by omega,show (4*k+ouR (w.getD k 0))%4=ouR (w.getD k 0) by omega,if_pos rfl,if_neg hd]
 exact ⟨rfl,rfl⟩
structure On (s:Nat) (w:List Int) (t h:Nat):Prop where
 ou:OuW w w.length h
 st:sto w h=t
 tl:t<s
 tp:0≤(stC w w.length).lst t
 le:ky s w (fo s w t)≤ky s w h
 seg: ∀x,ky s w (fo s w t)≤x→x≤ky s w h→∃g,g<4*w.length∧ky s w g=x∧sto w g=t
 cn:Cn (adjI (4*w.length) (nx (clm s w))) (fo s w t) h
section
variable {s : Nat} {w : List Int}
theorem tt_low {p:Nat}: ∀{k:Nat},(stC w k).lst p<0→tt w k p=p
 | 0,_=>rfl
 | k+1,h=>by
  rw [lst_step] at h
  by_cases e2:p=(w.getD k 0).natAbs
  · rw [e2,qca] at h; omega
  ·
   rw [upd_ne _ _ e2] at h
   by_cases e1:p=(w.getD k 0).natAbs-1
   · rw [e1,qca] at h; omega
   ·
    rw [upd_ne _ _ e1] at h
    show tt w k (tr (w.getD k 0).natAbs p)=p
    have:tr (w.getD k 0).natAbs p=p:=by
     unfold tr
     rw [if_neg (by omega),if_neg e2]
    rw [this,tt_low h]
theorem Vv_low {p k:Nat} (h:(stC w k).lst p<0):Vv s w k p=Vv s w 0 p:=by
 have e0:Vv s w 0 p=((stC w w.length).fst p).toNat:=if_pos (by unfold stC; show (-1:Int)<0; decide)
 rw [e0]
 unfold Vv
 rw [if_pos h]
theorem fst_tch {p:Nat}: ∀{k:Nat},0≤(stC w k).lst p→∃j,j<k∧(stC w j).lst p<0∧Tch w j p
 | 0,h=>by unfold stC at h; exact absurd h (show¬(0:Int)≤-1 by decide)
 | k+1,h=>by
  by_cases q:(stC w k).lst p<0
  ·
   refine ⟨k,by omega,q,?_⟩
   rw [lst_step] at h
   by_cases e2:p=(w.getD k 0).natAbs
   · exact .inr e2
   ·
    rw [upd_ne _ _ e2] at h
    by_cases e1:p=(w.getD k 0).natAbs-1
    · exact .inl e1
    · rw [upd_ne _ _ e1] at h; omega
  ·
   obtain ⟨j,j1,j2⟩:=fst_tch (p:=p) (k:=k) (by omega)
   exact ⟨j,by omega,j2⟩
variable (hw : ∀ x ∈ w, x ≠ 0 ∧ -(s : Int) < x ∧ x < s)
include hw
theorem tt_inj: ∀{k:Nat},k≤w.length→∀{p q:Nat},tt w k p=tt w k q→p=q
 | 0,_,_,_,h=>h
 | k+1,hk,p,q,h=>by
  have:=tt_inj (k:=k) (by omega) (show tt w k (tr _ p)=tt w k (tr _ q) from h)
  have h1:=(qck hw (show k<w.length by omega)).2.1
  rw [←tr_tr h1 p,this,tr_tr h1]
theorem tt_lt: ∀{k:Nat},k≤w.length→∀{p:Nat},p<s→tt w k p<s
 | 0,_,_,h=>h
 | k+1,hk,p,h=>by
  obtain ⟨_,h1,h2⟩:=qck hw (show k<w.length by omega)
  show tt w k (tr _ p)<s
  refine tt_lt (k:=k) (by omega) ?_
  unfold tr; split
  · exact h2
  · split<;>omega
theorem on_step {k a ho:Nat} (hk:k<w.length) (ha:a<s) (hta:Tch w k a) (hv:turnN (Vv s w k a) 2=ho) (h4:ho/ 4=k) (hou:OuW w w.length ho) (hst:sto w ho=tt w k a)
  (ih:0≤(stC w k).lst a→On s w (tt w k a) ((stC w k).lst a).toNat):On s w (tt w k a) ho:=by
 have M:=qcp hw
 have P:=M.iv.pn
 by_cases q:0≤(stC w k).lst a
 ·
  have I:=ih q
  have ok:=stC_ok hw k (by omega)
  have hl:=(ok.l1 a ha q).1.1
  have e1:Vv s w k a=clm s w ((stC w k).lst a).toNat:=by unfold Vv; rw [if_neg (by omega)]
  rw [e1] at hv
  have hn:nx (clm s w) ((stC w k).lst a).toNat=ho:=hv
  have hh':((stC w k).lst a).toNat<4*w.length:=I.ou.1
  have c1:Cn (adjI (4*w.length) (nx (clm s w))) ((stC w k).lst a).toNat ho:=Cn.one ⟨hh',hou.1,.inl hn.symm⟩
  have hr: ¬Pg.Rep (adjI (4*w.length) (nx (clm s w))) ho:=fun r=>r _ (by omega) c1
  have kk:ky s w ho=ky s w ((stC w k).lst a).toNat+1:=by
   have:=key_next P hh' (by rw [hn]; exact hr)
   rw [hn] at this
   exact this
  refine ⟨hou,hst,I.tl,I.tp,by have:=I.le; omega,fun x h1 h2=>?_,I.cn.trans c1⟩
  by_cases e:x=ky s w ho
  · exact ⟨ho,hou.1,e.symm,hst⟩
  · exact I.seg x h1 (by omega)
 ·
  have et:=tt_low (w:=w) (k:=k) (p:=a) (by omega)
  have ev:=Vv_low (s:=s) (w:=w) (k:=k) (p:=a) (by omega)
  have ef:fo s w a=ho:=by unfold fo; rw [←ev]; exact hv
  rw [et] at hst⊢
  refine ⟨hou,hst,ha,qdk hta hk,by rw [ef]; exact Nat.le_refl _,fun x h1 h2=>?_,by rw [ef]; exact .refl _⟩
  rw [ef] at h1
  exact ⟨ho,hou.1,by omega,hst⟩
omit hw in
theorem ou_letter {k:Nat} (hk:k<w.length):OuW w w.length (4*k+ouL (w.getD k 0))∧OuW w w.length (4*k+ouR (w.getD k 0)):=by
 obtain ⟨_,_,a3,a4⟩:=io_lt (w.getD k 0)
 have h1:=((ou_step w k (4*k+ouL (w.getD k 0))).1 (.inl (.inr rfl))).2
 have h2:=((ou_step w k (4*k+ouR (w.getD k 0))).1 (.inr rfl)).2
 exact ⟨⟨by omega,h1⟩,⟨by omega,h2⟩⟩
theorem sto_letter {k:Nat} (hk:k<w.length):sto w (4*k+ouL (w.getD k 0))=tt w k (w.getD k 0).natAbs∧sto w (4*k+ouR (w.getD k 0))=tt w k ((w.getD k 0).natAbs-1):=by
 obtain ⟨_,h1,_⟩:=qck hw hk
 obtain ⟨_,_,a3,a4⟩:=io_lt (w.getD k 0)
 obtain ⟨o1,o2⟩:=opos_at w k
 unfold sto
 rw [o1,o2,show (4*k+ouL (w.getD k 0))/ 4=k by omega,show (4*k+ouR (w.getD k 0))/ 4=k by omega]
 constructor
 · show tt w k (tr _ _)=_; rw [tr_l h1]
 · show tt w k (tr _ _)=_; rw [tr_r h1]
theorem on_out {k:Nat} (hk:k<w.length) (ih: ∀{p:Nat},p<s→0≤(stC w k).lst p→On s w (tt w k p) ((stC w k).lst p).toNat):
  On s w (tt w k ((w.getD k 0).natAbs-1)) (4*k+ouR (w.getD k 0))∧On s w (tt w k (w.getD k 0).natAbs) (4*k+ouL (w.getD k 0)):=by
 obtain ⟨_,h1,h2⟩:=qck hw hk
 obtain ⟨_,_,a3,a4⟩:=io_lt (w.getD k 0)
 obtain ⟨v1,v2⟩:=Vv_in hw hk
 obtain ⟨t1,t2⟩:=turn_io k (w.getD k 0)
 obtain ⟨u1,u2⟩:=ou_letter hk
 obtain ⟨s1,s2⟩:=sto_letter hw hk
 exact ⟨on_step hw hk (by omega) (.inl rfl) (by rw [v1,t1]) (by omega) u2 s2 (fun q=>ih (by omega) q),on_step hw hk h2 (.inr rfl) (by rw [v2,t2]) (by omega) u1 s1 (fun q=>ih h2 q)⟩
theorem on_all: ∀{k:Nat},k≤w.length→∀{p:Nat},p<s→0≤(stC w k).lst p→On s w (tt w k p) ((stC w k).lst p).toNat
 | 0,_,p,_,h=>by unfold stC at h; exact absurd h (show¬(0:Int)≤-1 by decide)
 | k+1,hk,p,hp,h=>by
  obtain ⟨o1,o2⟩:=on_out hw (show k<w.length by omega) (fun hp h=>on_all (k:=k) (by omega) hp h)
  obtain ⟨_,h1,h2⟩:=qck hw (show k<w.length by omega)
  rw [lst_step] at h⊢
  show On s w (tt w k (tr (w.getD k 0).natAbs p)) _
  by_cases e2:p=(w.getD k 0).natAbs
  · rw [e2,qca,tr_r h1,Int.toNat_natCast]; exact o1
  ·
   rw [upd_ne _ _ e2] at h⊢
   by_cases e1:p=(w.getD k 0).natAbs-1
   · rw [e1,qca,tr_l h1,Int.toNat_natCast]; exact o2
   ·
    rw [upd_ne _ _ e1] at h⊢
    rw [tr_o (by omega) e2]
    exact on_all (k:=k) (by omega) hp h
theorem fo_on {p:Nat} (hp:p<s) (hl:0≤(stC w w.length).lst p):On s w p (fo s w p):=by
 obtain ⟨j,j1,j2,j3⟩:=fst_tch hl
 obtain ⟨o1,o2⟩:=on_out hw j1 (fun hp h=>on_all hw (k:=j) (by omega) hp h)
 have et:=tt_low (w:=w) j2
 have ev:=Vv_low (s:=s) (w:=w) j2
 obtain ⟨v1,v2⟩:=Vv_in hw j1
 obtain ⟨t1,t2⟩:=turn_io j (w.getD j 0)
 unfold fo
 rw [←ev]
 rcases j3 with e | e
 ·
  rw [←e,et] at o1
  have:turnN (Vv s w j p) 2=4*j+ouR (w.getD j 0):=by rw [e,v1,t1]
  rw [this]; exact o1
 ·
  rw [←e,et] at o2
  have:turnN (Vv s w j p) 2=4*j+ouL (w.getD j 0):=by rw [e,v2,t2]
  rw [this]; exact o2
noncomputable def kp (s:Nat) (w:List Int) (p:Nat):Nat:=if 0≤(stC w w.length).lst p then ky s w (fo s w p) else 4*w.length*(4*w.length)+p
noncomputable def rk (s:Nat) (w:List Int) (p:Nat):Nat:=cnt s fun p'=>kp s w p'<kp s w p
theorem ky_lt {h:Nat} (hh:h<4*w.length):ky s w h<4*w.length*(4*w.length):=by
 have P:=(qcp hw).iv.pn
 have h1:=(qfx (f:=nx (clm s w)) hh).1
 have h2:=(jx_spec P hh).2.2
 have:=Nat.mul_le_mul_right (4*w.length) (show rpx (4*w.length) (nx (clm s w)) h+1≤4*w.length from h1)
 rw [Nat.succ_mul] at this
 unfold ky key
 omega
theorem kp_inj {p q:Nat} (hp:p<s) (hq:q<s) (h:kp s w p=kp s w q):p=q:=by
 have P:=(qcp hw).iv.pn
 unfold kp at h
 by_cases a:0≤(stC w w.length).lst p
 ·
  have A:=fo_on hw hp a
  have:=ky_lt hw (h:=fo s w p) A.ou.1
  rw [if_pos a] at h
  by_cases b:0≤(stC w w.length).lst q
  ·
   have B:=fo_on hw hq b
   rw [if_pos b] at h
   have e:=key_inj P A.ou.1 B.ou.1 h
   rw [←A.st,e,B.st]
  · rw [if_neg b] at h; omega
 ·
  rw [if_neg a] at h
  by_cases b:0≤(stC w w.length).lst q
  ·
   have B:=fo_on hw hq b
   have:=ky_lt hw (h:=fo s w q) B.ou.1
   rw [if_pos b] at h; omega
  · rw [if_neg b] at h; omega
omit hw in
theorem rk_mono {p q:Nat} (hp:p<s) (h:kp s w p<kp s w q):rk s w p<rk s w q:=by
 have h1:=qeg (N:=s) (p:=fun p'=>kp s w p'<kp s w p) hp (Nat.lt_irrefl _)
 have h2:cnt s (fun h=>h=p∨kp s w h<kp s w p)≤cnt s (fun p'=>kp s w p'<kp s w q):=cnt_mono fun k _ hk=>by
  rcases hk with e | e
  · rw [e]; exact h
  · omega
 unfold rk
 omega
theorem rk_iff {p q:Nat} (hp:p<s) (hq:q<s):rk s w p<rk s w q↔kp s w p<kp s w q:=by
 refine ⟨fun h=>?_,rk_mono hp⟩
 rcases Nat.lt_trichotomy (kp s w p) (kp s w q) with k | k | k
 · exact k
 · rw [kp_inj hw hp hq k] at h; omega
 · have:=rk_mono hq k; omega
omit hw in
theorem rk_lt {p:Nat} (hp:p<s):rk s w p<s:=by
 have h1:=qeg (N:=s) (p:=fun p'=>kp s w p'<kp s w p) hp (Nat.lt_irrefl _)
 have:=cnt_le s (fun h=>h=p∨kp s w h<kp s w p)
 unfold rk; omega
theorem rk_pm: ∃f g,Pm s f g∧∀p,p<s→f p=rk s w p:=by
 have hlen:((List.range s).map fun p=>(rk s w p:Int)).length=s:=by rw [List.length_map,List.length_range]
 obtain ⟨f,g,h1,h2⟩:=isP_of (p:=(List.range s).map fun p=>(rk s w p:Int)) (fun x hx=>by
  obtain ⟨p,hp,rfl⟩:=List.mem_map.1 hx
  have:=rk_lt (w:=w) (List.mem_range.1 hp)
  rw [hlen]; omega) (by
  rw [List.Nodup,List.pairwise_map]
  refine List.Pairwise.imp_of_mem (fun {a b} ha hb hab e=>hab ?_) (List.nodup_range (n:=s))
  have ha:=List.mem_range.1 ha
  have hb:=List.mem_range.1 hb
  have e':rk s w a=rk s w b:=by omega
  rcases Nat.lt_trichotomy (kp s w a) (kp s w b) with k | k | k
  · have:=rk_mono ha k; omega
  · exact kp_inj hw ha hb k
  · have:=rk_mono hb k; omega)
 rw [hlen] at h1 h2
 refine ⟨f,g,h1,fun p hp=>?_⟩
 have e1:=congrArg (fun l=>l[p]?) h2
 rw [li_at hp,List.getElem?_map,List.getElem?_range hp] at e1
 rw [Option.map_some] at e1
 have:=Option.some.inj e1
 omega
omit hw in
def Gd1 (s:Nat) (w:List Int) (c:Nat):Prop:=ky s w (4*c+(if 0<w.getD c 0 then 1 else 3))<ky s w (4*c+2)
omit hw in
theorem kp_at {t:Nat} (ht:0≤(stC w w.length).lst t):kp s w t=ky s w (fo s w t):=if_pos ht
theorem seg_lt {a b x y:Nat} (hab:a≠b) (A:On s w a x) (B:On s w b y) (h:ky s w x<ky s w y):kp s w a<kp s w b:=by
 have P:=(qcp hw).iv.pn
 rw [kp_at A.tp,kp_at B.tp]
 have FA:=fo_on hw A.tl A.tp
 rcases Nat.lt_or_ge (ky s w (fo s w a)) (ky s w (fo s w b)) with q | q
 · exact q
 ·
  exfalso
  obtain ⟨g,g1,g2,g3⟩:=B.seg (ky s w (fo s w a)) q (by have:=A.le; omega)
  have e:=key_inj P g1 FA.ou.1 g2
  rw [e,FA.st] at g3
  exact hab g3
theorem ord_at (hg: ∀c,c<w.length→Gd1 s w c) {k:Nat} (hk:k<w.length):(0<w.getD k 0→kp s w (tt w k ((w.getD k 0).natAbs-1))<kp s w (tt w k (w.getD k 0).natAbs))∧(¬0<w.getD k 0→kp s w (tt w k (w.getD k 0).natAbs)<kp s w (tt w k ((w.getD k 0).natAbs-1))):=by
 obtain ⟨_,h1,h2⟩:=qck hw hk
 obtain ⟨o1,o2⟩:=on_out hw hk (fun hp h=>on_all hw (k:=k) (by omega) hp h)
 have hne:tt w k ((w.getD k 0).natAbs-1)≠tt w k (w.getD k 0).natAbs:=fun e=>by
  have:=tt_inj hw (show k≤w.length by omega) e; omega
 have G:=hg k hk
 unfold Gd1 at G
 constructor
 ·
  intro q
  rw [if_pos q] at G
  have e1:ouR (w.getD k 0)=1:=if_pos q
  have e2:ouL (w.getD k 0)=2:=if_pos q
  rw [e1] at o1; rw [e2] at o2
  exact seg_lt hw hne o1 o2 G
 ·
  intro q
  rw [if_neg q] at G
  have e1:ouR (w.getD k 0)=2:=if_neg q
  have e2:ouL (w.getD k 0)=3:=if_neg q
  rw [e1] at o1; rw [e2] at o2
  exact seg_lt hw hne.symm o2 o1 G
theorem ly_suf {f:Nat→Nat} (hf: ∀p,p<s→f p=rk s w p) (hg: ∀c,c<w.length→Gd1 s w c): ∀d k,k+d=w.length→Ly s (fun p=>f (tt w k p)) (w.drop k) (fun p=>f (tt w w.length p)):=by
 intro d
 induction d with
 | zero=>
  intro k hk
  have:k=w.length:=by omega
  subst this
  rw [List.drop_length]
  exact .nil _
 | succ d ih=>
  intro k hk
  have hlt:k<w.length:=by omega
  have I:=ih (k+1) (by omega)
  obtain ⟨v0,h1,h2⟩:=qck hw hlt
  obtain ⟨g1,g2⟩:=ord_at hw hg hlt
  have t1:=tt_lt hw (show k≤w.length by omega) (show (w.getD k 0).natAbs-1<s by omega)
  have t2:=tt_lt hw (show k≤w.length by omega) h2
  rw [List.drop_eq_getElem_cons hlt,←qbr hlt (d:=0)]
  by_cases q:0<w.getD k 0
  ·
   have e:w.getD k 0=((w.getD k 0).natAbs:Int):=by omega
   rw [e]
   refine Ly.up h1 h2 ?_ I
   show f (tt w k _)<f (tt w k _)
   rw [hf _ t1,hf _ t2]
   exact rk_mono t1 (g1 q)
  ·
   have e:w.getD k 0=-((w.getD k 0).natAbs:Int):=by omega
   rw [e]
   refine Ly.dn h1 h2 ?_ I
   show f (tt w k _)<f (tt w k _)
   rw [hf _ t1,hf _ t2]
   exact rk_mono t2 (g2 q)
theorem tt_pm {f g:Nat→Nat} (h:Pm s f g): ∀{k:Nat},k≤w.length→∃g',Pm s (fun p=>f (tt w k p)) g'
 | 0,_=>⟨g,h⟩
 | k+1,hk=>by
  obtain ⟨g',h'⟩:=tt_pm h (k:=k) (by omega)
  obtain ⟨_,h1,h2⟩:=qck hw (show k<w.length by omega)
  exact ⟨_,h'.ex h1 h2⟩
theorem last_on {p:Nat} (hp:p<s) (hl:0≤(stC w w.length).lst p): ∃h,On s w (tt w w.length p) h∧nx (clm s w) h=fo s w p:=by
 have O:=on_all hw (Nat.le_refl _) hp hl
 refine ⟨_,O,?_⟩
 have e:Vv s w w.length p=clm s w ((stC w w.length).lst p).toNat:=by unfold Vv; rw [if_neg (by omega)]
 unfold nx fo
 rw [←e,Vv_end hw hp]
theorem rk_next {p:Nat} (hp:p<s):rk s w p≤rk s w (tt w w.length p)+1∧(rk s w p≠rk s w (tt w w.length p)+1↔(stC w w.length).lst p<0∨(0≤(stC w w.length).lst p∧Pg.Rep (adjI (4*w.length) (nx (clm s w))) (fo s w p))):=by
 have P:=(qcp hw).iv.pn
 by_cases hl:0≤(stC w w.length).lst p
 ·
  obtain ⟨h,O,hn⟩:=last_on hw hp hl
  have FP:=fo_on hw hp hl
  have ht:=O.tl
  have kt:=kp_at (s:=s) O.tp
  have kpp:=kp_at (s:=s) hl
  have hle:=O.le
  have hup:kp s w p≤ky s w h+1:=by
   rw [kpp,←hn]
   by_cases r:Pg.Rep (adjI (4*w.length) (nx (clm s w))) (nx (clm s w) h)
   ·
    have:=key_back P O.ou.1 r
    unfold ky; omega
   ·
    have:=key_next P O.ou.1 r
    unfold ky; omega
  have mid: ∀p',p'<s→kp s w p'<kp s w p→p'=tt w w.length p∨kp s w p'<kp s w (tt w w.length p):=fun p' hp' hk=>by
   rcases Nat.lt_or_ge (kp s w p') (kp s w (tt w w.length p)) with q | q
   · exact .inr q
   ·
    left
    have hNN:=ky_lt hw (h:=h) O.ou.1
    have hl':0≤(stC w w.length).lst p':=by
     by_cases z:0≤(stC w w.length).lst p'
     · exact z
     ·
      exfalso
      unfold kp at hk
      rw [if_neg z,if_pos hl] at hk
      have:=ky_lt hw (h:=fo s w p) FP.ou.1
      omega
    have F':=fo_on hw hp' hl'
    rw [kp_at hl'] at hk q
    rw [kt] at q
    obtain ⟨g,g1,g2,g3⟩:=O.seg (ky s w (fo s w p')) q (by rw [kpp] at hup; rw [kpp] at hk; omega)
    have e:=key_inj P g1 F'.ou.1 g2
    rw [e,F'.st] at g3
    exact g3
  have hcnt:rk s w p≤rk s w (tt w w.length p)+1:=by
   have h1:=qeg (N:=s) (p:=fun p'=>kp s w p'<kp s w (tt w w.length p)) ht (Nat.lt_irrefl _)
   have h2:cnt s (fun p'=>kp s w p'<kp s w p)≤cnt s (fun h=>h=tt w w.length p∨kp s w h<kp s w (tt w w.length p)):=cnt_mono fun k hk q=>mid k hk q
   unfold rk
   omega
  refine ⟨hcnt,?_⟩
  constructor
  ·
   intro q
   refine .inr ⟨hl,?_⟩
   by_cases r:Pg.Rep (adjI (4*w.length) (nx (clm s w))) (fo s w p)
   · exact r
   ·
    exfalso
    have e:ky s w (fo s w p)=ky s w h+1:=by
     have:=key_next P O.ou.1 (by rw [hn]; exact r)
     rw [hn] at this
     exact this
    have:=rk_mono (w:=w) ht (show kp s w (tt w w.length p)<kp s w p by rw [kt,kpp,e]; omega)
    omega
  ·
   rintro (q | ⟨_,r⟩)
   · omega
   ·
    intro e
    have hlt:kp s w (tt w w.length p)<kp s w p:=(rk_iff hw ht hp).1 (by omega)
    have hk:ky s w (fo s w p)≤ky s w h:=by
     have:=key_back P O.ou.1 (by rw [hn]; exact r)
     rw [hn] at this
     exact this
    rw [kt,kpp] at hlt
    obtain ⟨g,g1,g2,g3⟩:=O.seg (ky s w (fo s w p)) (by omega) hk
    have e2:=key_inj P g1 FP.ou.1 g2
    rw [e2,FP.st] at g3
    rw [←g3] at e
    omega
 ·
  have et:=tt_low (w:=w) (k:=w.length) (p:=p) (by omega)
  rw [et]
  exact ⟨by omega,⟨fun _=>.inl (by omega),fun _=>by omega⟩⟩
noncomputable def ncp (s:Nat) (w:List Int):Nat:=cnt (4*w.length) (fun h=>Outg (w.map sgv) h∧Pg.Rep (adjI (4*w.length) (nx (clm s w))) h)+cnt s (fun p=>(stC w w.length).lst p<0)
theorem rep_cnt:cnt s (fun p=>0≤(stC w w.length).lst p∧Pg.Rep (adjI (4*w.length) (nx (clm s w))) (fo s w p))=cnt (4*w.length) (fun h=>Outg (w.map sgv) h∧Pg.Rep (adjI (4*w.length) (nx (clm s w))) h):=by
 have P:=(qcp hw).iv.pn
 refine Nat.le_antisymm (cnt_inj (fo s w) (fun p hp h=>?_) (fun p q hp hq h1 h2 e=>?_)) (cnt_inj (sto w) (fun h hh q=>?_) (fun h g hh hg q1 q2 e=>?_))
 ·
  have F:=fo_on hw hp h.1
  exact ⟨F.ou.1,(qcu F.ou.1).2 F.ou,h.2⟩
 · rw [←(fo_on hw hp h1.1).st,e,(fo_on hw hq h2.1).st]
 all_goals
  have back: ∀h,h<4*w.length→Outg (w.map sgv) h→Pg.Rep (adjI (4*w.length) (nx (clm s w))) h→sto w h<s∧0≤(stC w w.length).lst (sto w h)∧fo s w (sto w h)=h:=fun h hh oh rh=>by
   have O:On s w (sto w h) h:=by
    rcases four_ou ((qcu hh).1 oh) with ⟨k,hk,e | e⟩
    ·
     have:=(on_out hw hk (fun hp h=>on_all hw (k:=k) (by omega) hp h)).2
     rw [←e] at this
     rw [this.st]; exact this
    ·
     have:=(on_out hw hk (fun hp h=>on_all hw (k:=k) (by omega) hp h)).1
     rw [←e] at this
     rw [this.st]; exact this
   have F:=fo_on hw O.tl O.tp
   refine ⟨O.tl,O.tp,?_⟩
   have e1:rpx (4*w.length) (nx (clm s w)) (fo s w (sto w h))=h:=rpx_eq F.ou.1 rh (O.cn.symm qfb)
   obtain ⟨e2,e3⟩:=key_rep P hh rh
   have hle:=O.le
   unfold ky key at hle
   rw [e1,e2,e3] at hle
   exact key_inj P F.ou.1 hh (by unfold key; rw [e1,e2,e3]; omega)
 ·
  obtain ⟨b1,b2,b3⟩:=back h hh q.1 q.2
  exact ⟨b1,b2,by rw [b3]; exact q.2⟩
 · rw [←(back h hh q1.1 q1.2).2.2,e,(back g hg q2.1 q2.2).2.2]
where
 four_ou {h:Nat} (ho:OuW w w.length h): ∃k,k<w.length∧(h=4*k+ouL (w.getD k 0)∨h=4*k+ouR (w.getD k 0)):=by
  obtain ⟨k,hk,hf⟩:=four h ho.1
  rcases hf with e | e | e | e
  · exact (ou_in ho ⟨ho.1,((in_step w k h).1 (.inl (.inr e))).2⟩).elim
  · exact (ou_in ho ⟨ho.1,((in_step w k h).1 (.inr e)).2⟩).elim
  · exact ⟨k,hk,.inl e⟩
  · exact ⟨k,hk,.inr e⟩
omit hw in
theorem asc_cnt (ν:Nat→Nat): ∀n,asc ν n=cnt n (fun t=>ν t=t+1)
 | 0=>rfl
 | n+1=>by
  show asc ν n+(if ν n=n+1 then 1 else 0)=_
  rw [asc_cnt ν n]
  by_cases e:ν n=n+1
  · rw [if_pos e,qbn (p:=fun t=>ν t=t+1) e]
  · rw [if_neg e,qbh (p:=fun t=>ν t=t+1) e]; rfl
theorem Xt_desc {K:Qn} (hd:del K≠0) (hs:1≤s) (hg: ∀c,c<w.length→Gd1 s w c):Xt K s w=del K ^ ncp s w:=by
 obtain ⟨f,g,hfg,hf⟩:=rk_pm hw
 obtain ⟨g',hm⟩:=tt_pm hw hfg (Nat.le_refl _)
 have hb: ∀p,p<s→f p≤f (tt w w.length p)+1:=fun p hp=>by
  rw [hf p hp,hf _ (tt_lt hw (Nat.le_refl _) hp)]
  exact (rk_next hw hp).1
 have L:=ly_suf hw hf hg w.length 0 (by omega)
 rw [List.drop_zero] at L
 have:=Xt_lay hd hs L hfg.symm hm.symm hb
 rw [this]
 congr 1
 show s-asc (fun t=>f (g' t)) (s-1)=_
 have e1:asc (fun t=>f (g' t)) (s-1)=cnt s (fun t=>f (g' t)=t+1):=by
  rw [asc_cnt]
  obtain ⟨n,rfl⟩: ∃n,s=n+1:=⟨s-1,by omega⟩
  rw [Nat.add_sub_cancel,qbh]
  have h1:=hm.symm.lt (show n<n+1 by omega)
  have h2:=hfg.lt h1
  omega
 have e2:cnt s (fun t=>f (g' t)=t+1)=cnt s (fun p=>rk s w p=rk s w (tt w w.length p)+1):=by
  have tl: ∀p,p<s→tt w w.length p<s:=fun p hp=>tt_lt hw (Nat.le_refl _) hp
  refine Nat.le_antisymm (cnt_inj g' (fun t ht h=>?_) (fun a b _ _ _ _ e=>hm.symm.inj e)) (cnt_inj (fun p=>f (tt w w.length p)) (fun p hp h=>?_) (fun a b _ _ _ _ e=>hm.inj e))
  ·
   have h1:=hm.symm.lt ht
   refine ⟨h1,?_⟩
   rw [←hf _ h1,←hf _ (tl _ h1)]
   have h2:=hm.fg t
   rw [h2]; exact h
  ·
   refine ⟨hfg.lt (tl p hp),?_⟩
   have h2:=hm.gf p
   rw [h2,hf p hp,hf _ (tl p hp)]; exact h
 have e3:=cnt_split s (fun _=>True) (fun p=>rk s w p=rk s w (tt w w.length p)+1)
 rw [cnt_all (fun _ _=>trivial)] at e3
 have e4:cnt s (fun h=>(rk s w h=rk s w (tt w w.length h)+1)∧True)=cnt s (fun p=>rk s w p=rk s w (tt w w.length p)+1):=qby fun _ _=>and_iff_left trivial
 have e5:cnt s (fun h=>(¬rk s w h=rk s w (tt w w.length h)+1)∧True)=cnt s (fun p=>(stC w w.length).lst p<0∨(0≤(stC w w.length).lst p∧Pg.Rep (adjI (4*w.length) (nx (clm s w))) (fo s w p))):=qby fun p hp=>(and_iff_left trivial).trans (rk_next hw hp).2
 have e6:=cnt_split s (fun p=>(stC w w.length).lst p<0∨(0≤(stC w w.length).lst p∧Pg.Rep (adjI (4*w.length) (nx (clm s w))) (fo s w p))) (fun p=>(stC w w.length).lst p<0)
 have e7:cnt s (fun p=>(stC w w.length).lst p<0∧((stC w w.length).lst p<0∨(0≤(stC w w.length).lst p∧Pg.Rep (adjI (4*w.length) (nx (clm s w))) (fo s w p))))=cnt s (fun p=>(stC w w.length).lst p<0):=qby fun p _=>⟨fun h=>h.1,fun h=>⟨h,.inl h⟩⟩
 have e8:cnt s (fun p=>(¬(stC w w.length).lst p<0)∧((stC w w.length).lst p<0∨(0≤(stC w w.length).lst p∧Pg.Rep (adjI (4*w.length) (nx (clm s w))) (fo s w p))))=cnt s (fun p=>0≤(stC w w.length).lst p∧Pg.Rep (adjI (4*w.length) (nx (clm s w))) (fo s w p)):=qby fun p _=>⟨fun h=>h.2.resolve_left h.1,fun h=>⟨by omega,.inr h⟩⟩
 have e9:=rep_cnt hw
 unfold ncp
 omega
end
end Gl
end Go.Proofs.Ytkjpldmelafooaa

set_option linter.all false
namespace Go.Proofs.Ytkjpldmelafooaa
open Ev
namespace Pg
theorem key_at {N:Nat} {f:Nat→Nat} (P:PI N f) {a k:Nat} (ha:a<N) (hr:Rep (adjI N f) a) (hk:k<per P a ha):rpx N f (it f k a)=a∧jx N f (it f k a)=k:=by
 have hx:=P.it ha k
 have e:=rpx_eq hx hr (P.cn ha k)
 refine ⟨e,jx_eq P hx (by rw [e]) (fun j hj q=>?_)⟩
 rw [e] at q
 exact (per_spec P ha).2 (k-j) (by omega) ⟨by omega,(P.back ha j (k-j) (by rw [show j+(k-j)=k from by omega]; exact q)).symm⟩
theorem jx_per {N:Nat} {f:Nat→Nat} (P:PI N f) {a g:Nat} (ha:a<N) (hg:g<N) (h:rpx N f g=a):jx N f g<per P a ha:=by
 obtain ⟨h1,h2,_⟩:=jx_spec P hg
 obtain ⟨_,c,_⟩:=qfx (f:=f) hg
 rw [h] at h1 h2 c
 obtain ⟨i,i1,i2⟩:=(per_all P ha g).2 c
 rcases Nat.lt_or_ge i (jx N f g) with q | q
 · exact absurd i2 (h2 i q)
 · omega
section
variable (sg : List Int) (μ : Nat → Nat)
noncomputable def tk (h:Nat):Nat:=key (4*sg.length) (nx μ) h
open Classical in
noncomputable def Vt (t c:Nat):Bool:=decide (∃g,g<4*sg.length∧Outg sg g∧g/ 4=c∧tk sg μ g<t)
open Classical in
noncomputable def rps:List Nat:=(List.range (4*sg.length)).filter fun h=>decide (Outg sg h∧Rep (adjI (4*sg.length) (nx μ)) h)
def ovo (c:Nat):Nat:=4*c+(if sg.getD c 0=1 then 1 else 3)
def Gd0 (c:Nat):Prop:=tk sg μ (ovo sg c)<tk sg μ (4*c+2)
noncomputable def tmr (i:Nat):Nat:=(rps sg μ).getD i (4*sg.length)*(4*sg.length)
end
section
variable {sg M : List Int} {lo : Int} {μ : Nat → Nat}
theorem rps_mem {a:Nat}:a∈rps sg μ↔a<4*sg.length∧Outg sg a∧Rep (adjI (4*sg.length) (nx μ)) a:=by
 simp only [rps,List.mem_filter,List.mem_range,decide_eq_true_eq]
theorem rps_asc:(rps sg μ).Pairwise (· < ·):=List.Pairwise.filter _ List.pairwise_lt_range
theorem strs_at (hM:MT (4*sg.length) M μ) {i:Nat} (hi:i<(rps sg μ).length) (ha:(rps sg μ)[i]<4*sg.length):(strs hM sg (4*sg.length))[i]? =some (cyc (N:=4*sg.length) (f:=nx μ) (per hM.iv.pn (rps sg μ)[i] ha) (rps sg μ)[i]):=by
 have:strs hM sg (4*sg.length)=(rps sg μ).map fun h=>if hh:h<4*sg.length then cyc (N:=4*sg.length) (f:=nx μ) (per hM.iv.pn h hh) h else []:=rfl
 rw [this,List.getElem?_map,gE hi]
 exact congrArg some (dif_pos ha)
theorem strs_lenr (hM:MT (4*sg.length) M μ):(strs hM sg (4*sg.length)).length=(rps sg μ).length:=by
 have:strs hM sg (4*sg.length)=(rps sg μ).map fun h=>if hh:h<4*sg.length then cyc (N:=4*sg.length) (f:=nx μ) (per hM.iv.pn h hh) h else []:=rfl
 rw [this,List.length_map]
variable (D : DV sg M lo μ)
include D
theorem rpx_mem {g:Nat} (hg:g<4*sg.length) (og:Outg sg g):rpx (4*sg.length) (nx μ) g∈rps sg μ:=by
 obtain ⟨h1,h2,h3⟩:=qfx (f:=nx μ) hg
 exact rps_mem.2 ⟨h1,(outg_cn D h2).2 og,h3⟩
theorem tk_it {i k:Nat} (hi:i<(rps sg μ).length) (ha:(rps sg μ)[i]<4*sg.length) (hk:k<per D.mt.iv.pn (rps sg μ)[i] ha):
  tk sg μ (it (nx μ) k (rps sg μ)[i])=tmr sg μ i+k:=by
 have hm:=rps_mem.1 (List.getElem_mem hi)
 obtain ⟨e1,e2⟩:=key_at D.mt.iv.pn ha hm.2.2 hk
 unfold tk key tmr
 rw [e1,e2,qbr hi]
theorem tk_end {i:Nat} (hi:i<(rps sg μ).length) (ha:(rps sg μ)[i]<4*sg.length) {g:Nat} (hg:g<4*sg.length) (og:Outg sg g):
  tk sg μ g<tmr sg μ i+per D.mt.iv.pn (rps sg μ)[i] ha↔tk sg μ g<tmr sg μ (i+1):=by
 have P:=D.mt.iv.pn
 have hm:=rpx_mem D hg og
 obtain ⟨j,hj,ej⟩:=List.getElem_of_mem hm
 obtain ⟨r1,r2,r3⟩:=qfx (f:=nx μ) hg
 obtain ⟨j1,j2,j3⟩:=jx_spec P hg
 have hpl:=per_le P ha
 have asc: ∀x y (hx:x<(rps sg μ).length) (hy:y<(rps sg μ).length),x<y→(rps sg μ)[x]<(rps sg μ)[y]:=fun x y hx hy h=>List.pairwise_iff_getElem.1 rps_asc x y hx hy h
 have h1:tk sg μ g<tmr sg μ i+per P (rps sg μ)[i] ha↔j≤i:=by
  unfold tk key tmr
  rw [qbr hi,←ej]
  constructor
  ·
   intro q
   rcases Nat.lt_or_ge i j with z | z
   ·
    have:=Nat.mul_le_mul_right (4*sg.length) (show (rps sg μ)[i]+1≤(rps sg μ)[j] from asc _ _ hi hj z)
    rw [Nat.succ_mul] at this
    omega
   · exact z
  ·
   intro q
   rcases Nat.lt_or_ge j i with z | z
   ·
    have:=Nat.mul_le_mul_right (4*sg.length) (show (rps sg μ)[j]+1≤(rps sg μ)[i] from asc _ _ hj hi z)
    rw [Nat.succ_mul] at this
    have:=(per_spec P ha).1.1
    omega
   ·
    obtain rfl:j=i:=by omega
    have:=jx_per P ha hg ej.symm
    omega
 have h2:tk sg μ g<tmr sg μ (i+1)↔j≤i:=by
  unfold tk key tmr
  rw [←ej]
  rcases Nat.lt_or_ge (i+1) (rps sg μ).length with z | z
  ·
   rw [qbr z]
   constructor
   ·
    intro q
    rcases Nat.lt_or_ge i j with y | y
    ·
     have:(rps sg μ)[i+1]≤(rps sg μ)[j]:=by
      rcases Nat.lt_or_ge (i+1) j with x | x
      · exact Nat.le_of_lt (asc _ _ z hj x)
      ·
       obtain rfl:j=i+1:=by omega
       exact Nat.le_refl _
     have:=Nat.mul_le_mul_right (4*sg.length) this
     omega
    · exact y
   ·
    intro q
    have:=Nat.mul_le_mul_right (4*sg.length) (show (rps sg μ)[j]+1≤(rps sg μ)[i+1] from asc _ _ hj z (by omega))
    rw [Nat.succ_mul] at this
    omega
  ·
   rw [List.getD_eq_getElem?_getD,List.getElem?_eq_none (by omega),Option.getD_none]
   refine ⟨fun _=>by omega,fun _=>?_⟩
   have:=Nat.mul_le_mul_right (4*sg.length) (show (rps sg μ)[j]+1≤4*sg.length by omega)
   rw [Nat.succ_mul] at this
   omega
 rw [h1,h2]
theorem tmr0 {g:Nat} (hg:g<4*sg.length) (og:Outg sg g): ¬tk sg μ g<tmr sg μ 0:=by
 obtain ⟨j,hj,ej⟩:=List.getElem_of_mem (rpx_mem D hg og)
 unfold tk key tmr
 rw [←ej,qbr (show 0<(rps sg μ).length by omega)]
 have:(rps sg μ)[0]≤(rps sg μ)[j]:=by
  rcases Nat.eq_zero_or_pos j with rfl | q
  · exact Nat.le_refl _
  · exact Nat.le_of_lt (List.pairwise_iff_getElem.1 rps_asc 0 j _ hj q)
 have:=Nat.mul_le_mul_right (4*sg.length) this
 omega
omit D in
theorem Vt_congr {t t':Nat} (h: ∀g,g<4*sg.length→Outg sg g→(tk sg μ g<t↔tk sg μ g<t')):Vt sg μ t=Vt sg μ t':=by
 funext c
 refine decide_eq_decide.mpr ⟨fun ⟨g,a,b,c,d⟩=>⟨g,a,b,c,(h g a b).1 d⟩,fun ⟨g,a,b,c,d⟩=>⟨g,a,b,c,(h g a b).2 d⟩⟩
theorem Vt_step {x t:Nat} (hx:x<4*sg.length) (ox:Outg sg x) (ht:tk sg μ x=t) (c:Nat):Vt sg μ (t+1) c=(decide (c=x/ 4) || Vt sg μ t c):=by
 unfold Vt
 rw [←Bool.decide_or]
 refine decide_eq_decide.mpr ⟨fun ⟨g,a,b,e,d⟩=>?_,?_⟩
 ·
  by_cases q:tk sg μ g=t
  ·
   have:=key_inj D.mt.iv.pn a hx (q.trans ht.symm)
   subst this
   exact .inl e.symm
  · exact .inr ⟨g,a,b,e,by omega⟩
 ·
  rintro (h | ⟨g,a,b,e,d⟩)
  · exact ⟨x,hx,ox,h.symm,by omega⟩
  · exact ⟨g,a,b,e,by omega⟩
theorem out_cases {g:Nat} (hg:g<4*sg.length):Outg sg g↔g=4*(g/ 4)+2∨g=ovo sg (g/ 4):=by
 have hs:=D.sgn _ (List.getElem_mem (show g/ 4<sg.length by omega))
 unfold Outg ovo
 rw [qbr (show g/ 4<sg.length by omega)]
 rcases hs with e | e
 · rw [e,if_pos rfl]; omega
 · rw [e,if_neg (by decide)]; omega
noncomputable def okAt (sg:List Int) (μ:Nat→Nat) (t x:Nat):Bool:=Vt sg μ t (x/ 4) || decide (x%2=1)
theorem ok_bad {t x:Nat} (hx:x<4*sg.length) (ox:Outg sg x) (ht:tk sg μ x=t) (h:okAt sg μ t x=false):x/ 4<sg.length∧¬Gd0 sg μ (x/ 4):=by
 obtain ⟨h1,h2⟩:=Bool.or_eq_false_iff.1 h
 have h1:=of_decide_eq_false h1
 have h2:=of_decide_eq_false h2
 refine ⟨by omega,fun q=>?_⟩
 unfold Gd0 at q
 have e:x=4*(x/ 4)+2:=by
  rcases (out_cases D hx).1 ox with e | e
  · exact e
  · unfold ovo at e; split at e<;>omega
 rw [←e] at q
 have hl:ovo sg (x/ 4)<4*sg.length:=by unfold ovo; split<;>omega
 have h4:ovo sg (x/ 4)/ 4=x/ 4:=by unfold ovo; split<;>omega
 exact h1 ⟨_,hl,(out_cases D hl).2 (.inr (by rw [h4])),h4,by omega⟩
theorem ok_good {c:Nat} (hc:c<sg.length) (h:okAt sg μ (tk sg μ (4*c+2)) (4*c+2)=true):Gd0 sg μ c:=by
 unfold okAt at h
 rw [dF (by omega),Bool.or_false,show (4*c+2)/ 4=c by omega] at h
 obtain ⟨g,g1,g2,g3,g4⟩:=of_decide_eq_true h
 rcases (out_cases D g1).1 g2 with e | e
 · rw [g3] at e; rw [e] at g4; omega
 · rw [g3] at e; rw [e] at g4; exact g4
theorem des_in {i:Nat} (hi:i<(rps sg μ).length) (ha:(rps sg μ)[i]<4*sg.length) (m:Nat) (hm:500<m):
  (F.qbs m (strs D.mt sg (4*sg.length)) ((i:Int),bset sg.length (Vt sg μ (tmr sg μ i)))=some (.inl (((i+1:Nat):Int),bset sg.length (Vt sg μ (tmr sg μ (i+1)))))
   ∧∀k,k<per D.mt.iv.pn (rps sg μ)[i] ha→okAt sg μ (tmr sg μ i+k) (it (nx μ) k (rps sg μ)[i])=true)∨
  ∃c:Nat,c<sg.length∧¬Gd0 sg μ c∧F.qbs m (strs D.mt sg (4*sg.length)) ((i:Int),bset sg.length (Vt sg μ (tmr sg μ i)))=some (.inr (.inr ((c:Int),false))):=by
 have P:=D.mt.iv.pn
 have h64:=D.n
 have hpl:=per_le P ha
 have hmem:=rps_mem.1 (List.getElem_mem hi)
 have hlen:(rps sg μ).length≤4*sg.length:=by
  have h1:=strs_len D.mt sg (4*sg.length)
  have h2:=cnt_le (4*sg.length) (fun h=>Outg sg h∧Rep (adjI (4*sg.length) (nx μ)) h)
  rw [strs_lenr D.mt] at h1
  omega
 have hst:=strs_at D.mt hi ha
 have hsl:=strs_lenr D.mt (sg:=sg)
 have hcl:(cyc (N:=4*sg.length) (f:=nx μ) (per P (rps sg μ)[i] ha) (rps sg μ)[i]).length=per P (rps sg μ)[i] ha:=by simp [cyc]
 have stepk: ∀k,k<per P (rps sg μ)[i] ha→
   (okAt sg μ (tmr sg μ i+k) (it (nx μ) k (rps sg μ)[i])=true→F.qcd m (cyc (N:=4*sg.length) (f:=nx μ) (per P (rps sg μ)[i] ha) (rps sg μ)[i]) ((k:Int),bset sg.length (Vt sg μ (tmr sg μ i+k)))=some (.inl (((k+1:Nat):Int),bset sg.length (Vt sg μ (tmr sg μ i+(k+1))))))∧
   (okAt sg μ (tmr sg μ i+k) (it (nx μ) k (rps sg μ)[i])=false→F.qcd m (cyc (N:=4*sg.length) (f:=nx μ) (per P (rps sg μ)[i] ha) (rps sg μ)[i]) ((k:Int),bset sg.length (Vt sg μ (tmr sg μ i+k)))=some (.inr (.inr (((it (nx μ) k (rps sg μ)[i]/ 4:Nat):Int),false)))):=fun k hk=>by
  have hx:=P.it ha k
  have ht:=tk_it D hi ha hk
  have ox:Outg sg (it (nx μ) k (rps sg μ)[i]):=(outg_cn D (P.cn ha k)).1 hmem.2.1
  have hgj:(cyc (N:=4*sg.length) (f:=nx μ) (per P (rps sg μ)[i] ha) (rps sg μ)[i])[k]? =some ((it (nx μ) k (rps sg μ)[i]:Nat):Int):=by
   unfold cyc
   rw [List.getElem?_map,List.getElem?_range hk]; rfl
  generalize it (nx μ) k (rps sg μ)[i]=x at hx ht ox hgj⊢
  have e4:Int.tdiv (x:Int) 4=((x/ 4:Nat):Int):=Int.ofNat_tdiv x 4
  have e2:Int.tmod (x:Int) 2=((x%2:Nat):Int):=Int.ofNat_tmod x 2
  have hx4:x/ 4<sg.length:=by omega
  have hgv:Ev.get (bset sg.length (Vt sg μ (tmr sg μ i+k))) ((x/ 4:Nat):Int)=some (Vt sg μ (tmr sg μ i+k) (x/ 4)):=by rw [qbl,bset_get hx4]
  have hset:(bset sg.length (Vt sg μ (tmr sg μ i+k))).set ((x/ 4:Nat):Int).toNat true=bset sg.length (Vt sg μ (tmr sg μ i+(k+1))):=by
   rw [Int.toNat_natCast,bset_set hx4]
   exact qgl fun c hc=>(Vt_step D hx ox ht c).symm
  have tail:((chk ((k:Int)+1)).bind fun z=>some (.inl (z,(bset sg.length (Vt sg μ (tmr sg μ i+k))).set ((x/ 4:Nat):Int).toNat true)):Option ((Int×(List Bool))⊕((Int×(List Bool))⊕(Int×Bool))))=some (.inl (((k+1:Nat):Int),bset sg.length (Vt sg μ (tmr sg μ i+(k+1))))):=by
   rw [qal (by omega) (by omega),bB,hset]; rfl
  unfold F.qcd
  dsimp only
  rw [dT (by omega),kT,qbl,hgj,bB,nz_ok (by decide),bB,e4,qal (by omega) (by omega),bB,hgv,bB]
  unfold okAt
  cases hv:Vt sg μ (tmr sg μ i+k) (x/ 4) with
  | true=>
   rw [Bool.not_true,kF,bB,bB,hgv,bB,tail,Bool.true_or]
   exact ⟨fun _=>rfl,fun h=>by cases h⟩
  | false=>
   rw [Bool.not_false,kT,nz_ok (by decide),bB,e2,Bool.false_or]
   by_cases q:x%2=1
   ·
    rw [dT q,dF (by omega),kF,bB,bB,hgv,bB,tail]
    exact ⟨fun _=>rfl,fun h=>by cases h⟩
   ·
    rw [dF q,dT (by omega),kT,bB,bB]
    exact ⟨fun h=>(by cases h),fun _=>rfl⟩
 have hend:F.qcd m (cyc (N:=4*sg.length) (f:=nx μ) (per P (rps sg μ)[i] ha) (rps sg μ)[i]) (((per P (rps sg μ)[i] ha:Nat):Int),bset sg.length (Vt sg μ (tmr sg μ i+per P (rps sg μ)[i] ha)))=some (.inr (.inl (((per P (rps sg μ)[i] ha:Nat):Int),bset sg.length (Vt sg μ (tmr sg μ (i+1)))))):=by
  unfold F.qcd
  dsimp only
  rw [dF (by omega),kF,Vt_congr (fun g g1 g2=>tk_end D hi ha g1 g2)]
 have U:=count_until (fun k:Nat=>((k:Int),bset sg.length (Vt sg μ (tmr sg μ i+k)))) (per P (rps sg μ)[i] ha) m (by omega) (fun k hk=>by
  cases h:okAt sg μ (tmr sg μ i+k) (it (nx μ) k (rps sg μ)[i]) with
  | true=>exact .inl ((stepk k hk).1 h)
  | false=>exact .inr ⟨_,(stepk k hk).2 h⟩) hend
 have start:F.qbs m (strs D.mt sg (4*sg.length)) ((i:Int),bset sg.length (Vt sg μ (tmr sg μ i)))=((loopN m (F.qcd m (cyc (N:=4*sg.length) (f:=nx μ) (per P (rps sg μ)[i] ha) (rps sg μ)[i])) (0,bset sg.length (Vt sg μ (tmr sg μ i)))).bind fun o59=>match o59 with
  | (.inl (v25_1,qf22_1))=>(chk ((i:Int)+1)).bind fun z128=>some (.inl (z128,qf22_1))
  | (.inr q)=>some (.inr (.inr q))):=by
  unfold F.qbs
  dsimp only
  rw [dT (by omega),kT,qbl,hst,bB]
  rfl
 rcases U with ⟨u1,u2⟩ | ⟨k,hk,_,r,hr,u1⟩
 ·
  left
  have u1:loopN m (F.qcd m (cyc (N:=4*sg.length) (f:=nx μ) (per P (rps sg μ)[i] ha) (rps sg μ)[i])) (0,bset sg.length (Vt sg μ (tmr sg μ i)))=_:=u1
  rw [start,u1]
  refine ⟨?_,fun k hk=>?_⟩
  ·
   rw [bB]
   dsimp only
   rw [qal (by omega) (by omega),bB]; rfl
  ·
   cases h:okAt sg μ (tmr sg μ i+k) (it (nx μ) k (rps sg μ)[i]) with
   | true=>rfl
   | false=>
    have:=u2 k hk
    rw [(stepk k hk).2 h] at this
    cases this
 ·
  right
  have u1:loopN m (F.qcd m (cyc (N:=4*sg.length) (f:=nx μ) (per P (rps sg μ)[i] ha) (rps sg μ)[i])) (0,bset sg.length (Vt sg μ (tmr sg μ i)))=_:=u1
  cases h:okAt sg μ (tmr sg μ i+k) (it (nx μ) k (rps sg μ)[i]) with
  | true=>
   rw [(stepk k hk).1 h] at hr
   cases hr
  | false=>
   rw [(stepk k hk).2 h] at hr
   cases hr
   obtain ⟨b1,b2⟩:=ok_bad D (P.it ha k) ((outg_cn D (P.cn ha k)).1 hmem.2.1) (tk_it D hi ha hk) h
   refine ⟨_,b1,b2,?_⟩
   rw [start,u1,bB]
theorem des_eq (m:Nat) (hm:500<m):(F.qcx m sg M lo=some (-1,true)∧∀c,c<sg.length→Gd0 sg μ c)∨∃c:Nat,c<sg.length∧¬Gd0 sg μ c∧F.qcx m sg M lo=some ((c:Int),false):=by
 have P:=D.mt.iv.pn
 have h64:=D.n
 have hlen:(rps sg μ).length≤4*sg.length:=by
  have h1:=strs_len D.mt sg (4*sg.length)
  have h2:=cnt_le (4*sg.length) (fun h=>Outg sg h∧Rep (adjI (4*sg.length) (nx μ)) h)
  rw [strs_lenr D.mt] at h1
  omega
 have hsl:=strs_lenr D.mt (sg:=sg)
 have lt: ∀i (hi:i<(rps sg μ).length),(rps sg μ)[i]<4*sg.length:=fun i hi=>(rps_mem.1 (List.getElem_mem hi)).1
 have hend:F.qbs m (strs D.mt sg (4*sg.length)) (((rps sg μ).length:Int),bset sg.length (Vt sg μ (tmr sg μ (rps sg μ).length)))=some (.inr (.inl (((rps sg μ).length:Int),bset sg.length (Vt sg μ (tmr sg μ (rps sg μ).length))))):=by
  unfold F.qbs
  dsimp only
  rw [dF (by omega),kF]
 have U:=count_until (fun i:Nat=>((i:Int),bset sg.length (Vt sg μ (tmr sg μ i)))) (rps sg μ).length m (by omega) (fun i hi=>by
  rcases des_in D hi (lt i hi) m hm with h | ⟨c,_,_,h⟩
  · exact .inl h.1
  · exact .inr ⟨_,h⟩) hend
 have start:F.qcx m sg M lo=((loopN m (F.qbs m (strs D.mt sg (4*sg.length))) (0,bset sg.length (Vt sg μ (tmr sg μ 0)))).bind fun o35=>match o35 with
  | (.inl (v19_0,qf22_0))=>some ((-1),true)
  | (.inr q)=>some q):=by
  have e0:List.replicate ((sg.length:Int)).toNat false=bset sg.length (Vt sg μ (tmr sg μ 0)):=by
   rw [Int.toNat_natCast,bset_rep]
   refine qgl fun c hc=>(dF ?_).symm
   rintro ⟨g,g1,g2,_,g3⟩
   exact tmr0 D g1 g2 g3
  unfold F.qcx
  rw [qht D m (by omega),bB,Bool.not_true,kF,pos_ok (by omega) (by omega),bB,strands_eq D m hm,bB,e0]
  rfl
 rcases U with ⟨u1,u2⟩ | ⟨i,hi,_,r,hr,u1⟩
 ·
  left
  have u1:loopN m (F.qbs m (strs D.mt sg (4*sg.length))) (0,bset sg.length (Vt sg μ (tmr sg μ 0)))=_:=u1
  rw [start,u1]
  refine ⟨rfl,fun c hc=>?_⟩
  have hu:4*c+2<4*sg.length:=by omega
  have ou:Outg sg (4*c+2):=(out_cases D hu).2 (.inl (by omega))
  obtain ⟨i,hi,ei⟩:=List.getElem_of_mem (rpx_mem D hu ou)
  have ha:=lt i hi
  have hj:=jx_per P ha hu ei.symm
  obtain ⟨j1,_,_⟩:=jx_spec P hu
  have ht:=tk_it D hi ha hj
  have e:it (nx μ) (jx (4*sg.length) (nx μ) (4*c+2)) (rps sg μ)[i]=4*c+2:=by rw [ei]; exact j1
  rcases des_in D hi ha m hm with h | ⟨c',_,_,h⟩
  ·
   have:=h.2 _ hj
   rw [←ht,e] at this
   exact ok_good D hc this
  ·
   have:=u2 i hi
   rw [h] at this
   cases this
 ·
  right
  have u1:loopN m (F.qbs m (strs D.mt sg (4*sg.length))) (0,bset sg.length (Vt sg μ (tmr sg μ 0)))=_:=u1
  rcases des_in D hi (lt i hi) m hm with h | ⟨c,c1,c2,h⟩
  ·
   rw [h.1] at hr
   cases hr
  ·
   rw [h] at hr
   cases hr
   refine ⟨c,c1,c2,?_⟩
   rw [start,u1,bB]
end
theorem turn_by (h:Nat) (hh:h≤1000000) (b:Int) (hb: -4<b) (hb2:b≤4) (n:Nat):F.qdt n (h:Int) b=some ((4*(h/ 4)+(((h%4:Nat):Int)+Int.tmod b 4+4).toNat%4:Nat):Int):=by
 have e1:Int.tmod (h:Int) 4=((h%4:Nat):Int):=Int.ofNat_tmod h 4
 have eb:b=-3∨b=-2∨b=-1∨b=0∨b=1∨b=2∨b=3∨b=4:=by omega
 have hbm: -3≤Int.tmod b 4∧Int.tmod b 4≤3:=by rcases eb with rfl | rfl | rfl | rfl | rfl | rfl | rfl | rfl<;>decide
 unfold F.qdt
 rw [dF (by omega),kF,nz_ok (by decide),bB,e1]
 generalize Int.tmod b 4=t at*
 obtain ⟨u,hu⟩: ∃u:Nat,((h%4:Nat):Int)+t+4=(u:Int):=⟨(((h%4:Nat):Int)+t+4).toNat,by omega⟩
 rw [qal (by omega) (by omega),bB,bB,bB,qal (by omega) (by omega),bB,qal (by omega) (by omega),bB,bB,hu,Int.toNat_natCast,show Int.tmod (u:Int) 4=((u%4:Nat):Int) from Int.ofNat_tmod u 4,qal (by omega) (by omega),bB]
 congr 1
 omega
end Pg
namespace Gl
open Gar Pg
section
variable {s : Nat} {w : List Int} (hw : ∀ x ∈ w, x ≠ 0 ∧ -(s : Int) < x ∧ x < s) (hL : w.length ≤ 64) {c : Nat} (hc : c < w.length)
theorem phi_q (h:Nat):phi w c h/ 4=h/ 4:=by unfold phi turnN; split; split<;>omega; rfl
theorem sgv_pm (v:Int):sgv v=1∨sgv v=-1:=by unfold sgv; split<;>simp
include hc in
theorem sgv_sw (hw0:w.getD c 0≠0):(sw1 w c).map sgv=iL w.length (fun j=>(w.map sgv).getD j 0*(if j=c then -1 else 1)):=by
 apply List.ext_getElem?
 intro j
 by_cases hj:j<w.length
 ·
  have hj':j<(sw1 w c).length:=by rw [qcf]; exact hj
  have e2:(sw1 w c)[j]=if j=c then -(w.getD c 0) else w.getD j 0:=by rw [←sw1_at hc j,qbr hj']
  rw [List.getElem?_map,gE hj',qdw hj,e2,qbr (show j<(w.map sgv).length by rw [List.length_map]; exact hj),List.getElem_map,←qbr hj (d:=0)]
  show some (sgv _)=_
  by_cases e:j=c
  ·
   subst e
   rw [if_pos rfl,if_pos rfl]
   congr 1
   unfold sgv
   split<;>split<;>omega
  · rw [if_neg e,if_neg e,Int.mul_one]
 · rw [List.getElem?_eq_none (by rw [List.length_map,qcf]; omega),List.getElem?_eq_none (by rw [iL_len]; omega)]
include hw hL hc
omit hw in
theorem move_phi {h:Nat} (hh:h<4*w.length) (M:List Int) (lo:Int) (n:Nat):F.qgq n (h:Int) (c:Int) (w.map sgv) M lo=some ((phi w c h:Nat):Int):=by
 have e1:Int.tdiv (h:Int) 4=((h/ 4:Nat):Int):=Int.ofNat_tdiv h 4
 unfold F.qgq F.qha F.qfo phi
 rw [nz_ok (by decide),bB,e1,qal (by omega) (by omega),bB,bB,bB]
 by_cases q:h/ 4=c
 ·
  rw [dT (by omega),Bool.not_true,kF,qbl,List.getElem?_map,if_pos q,q,gE hc,qbr hc]
  show ((some (sgv w[c])).bind _).bind _=_
  rw [bB]
  by_cases v:0<w[c]
  ·
   rw [show sgv w[c]=1 from if_pos v,dT rfl,kT,bB,turn_by h (by omega) _ (by decide) (by decide),bB,if_pos v]
   unfold turnN
   rw [show Int.tmod (-3) 4=-3 from by decide]
   congr 2
   omega
  ·
   rw [show sgv w[c]=-1 from if_neg v,dF (by decide),kF,bB,turn_by h (by omega) _ (by decide) (by decide),bB,if_neg v]
   unfold turnN
   rw [show Int.tmod (-1) 4=-1 from by decide]
   congr 2
   omega
 ·
  rw [dF (by omega),Bool.not_false,kT,bB,turn_by h (by omega) _ (by decide) (by decide),bB,if_neg q]
  rw [show Int.tmod 0 4=0 from by decide]
  congr 2
  omega
theorem switch_eq (m:Nat) (hm:500<m) {lo:Int} (l0:0≤lo) (l1:lo≤64):F.qgz m (w.map sgv) (clM s w) lo (c:Int)=some ((sw1 w c).map sgv,clM s (sw1 w c),lo,0):=by
 have D:=clo_dv hw hL l0 l1
 have hln:(w.map sgv).length=w.length:=List.length_map ..
 have M:=qcp hw
 have M':=qcp (sw1_rg hw hc)
 have h0:=c_ne hw hc
 have ml:=M.1
 have hs: ∀k,k<w.length→(w.map sgv)[k]? =some ((w.map sgv).getD k 0)∧((w.map sgv).getD k 0=1∨(w.map sgv).getD k 0=-1):=fun k hk=>by
  have hk':k<(w.map sgv).length:=by omega
  rw [qbr hk',gE hk',List.getElem_map]
  exact ⟨rfl,sgv_pm _⟩
 have signs:loopN m (F.qbg m (w.map sgv) (c:Int)) (0,List.replicate ((w.map sgv).length:Int).toNat (0:Int))=some ((w.length:Int),(sw1 w c).map sgv):=by
  have e0:((0:Int),List.replicate ((w.map sgv).length:Int).toNat (0:Int))=(fun k:Nat=>((k:Int),iL w.length (fun j=>if j<k then (w.map sgv).getD j 0*(if j=c then -1 else 1) else 0))) 0:=by
   rw [Int.toNat_natCast,iL_rep,hln]; rfl
  rw [e0,sgv_sw hc h0]
  refine qce (fun k:Nat=>((k:Int),iL w.length (fun j=>if j<k then (w.map sgv).getD j 0*(if j=c then -1 else 1) else 0))) w.length (fun k hk=>?_) ?_ m (by omega)
  ·
   obtain ⟨q1,q2⟩:=hs k hk
   unfold F.qbg F.qhc F.qfo
   dsimp only
   rw [dT (by omega),kT,qbl,q1,bB,bB]
   have:(cond (decide ((k:Int)=(c:Int))) (some (-1:Int)) (some 1))=some (if k=c then -1 else 1):=by
    by_cases e:k=c
    · rw [dT (by omega),if_pos e]; rfl
    · rw [dF (by omega),if_neg e]; rfl
   rw [this,bB,qal (by split<;>omega) (by split<;>omega),bB,qbl,qdw hk,bB,qal (by omega) (by omega),bB,Int.toNat_natCast,iL_set,show ((k:Int)+1)=((k+1:Nat):Int) from by omega]
   congr 3
   refine qdb fun j hj=>?_
   by_cases e:j=k
   · subst e; rw [if_pos rfl,if_pos (show j<j+1 by omega)]
   ·
    rw [if_neg e]
    by_cases h:j<k
    · rw [if_pos h,if_pos (show j<k+1 by omega)]
    · rw [if_neg h,if_neg (show¬j<k+1 by omega)]
  ·
   unfold F.qbg
   dsimp only
   rw [dF (by omega),kF]
   congr 3
   refine qdb fun j hj=>by rw [if_pos hj]
 have hsl: ∀j,j<4*w.length→phi (sw1 w c) c j<4*w.length:=fun j hj=>by have:=phi_q (w:=sw1 w c) (c:=c) j; omega
 have hr: ∀j,phi w c (phi (sw1 w c) c j)=j:=fun j=>by
  have:=phi_phi (w:=sw1 w c) (c:=c) (by rw [qcf]; exact hc) (by rw [sw1_at hc,if_pos rfl]; omega) j
  rwa [sw1_sw1 hc] at this
 have hl: ∀j,phi (sw1 w c) c (phi w c j)=j:=fun j=>phi_phi hc h0 j
 have moves:loopN m (F.qbf m (clM s w) (c:Int) (w.map sgv) (clM s w) lo) (0,List.replicate ((clM s w).length:Int).toNat (0:Int))=some (((4*w.length:Nat):Int),clM s (sw1 w c)):=by
  have e9:clM s (sw1 w c)=iL (4*w.length) (fun j=>(phi w c (clm s w (phi (sw1 w c) c j)):Int)):=by
   apply List.ext_getElem?
   intro j
   by_cases hj:j<4*w.length
   · rw [qdw hj,(M'.2 j (by rw [qcf]; exact hj)).1,←clm_sw hw hc (hsl j hj),hr]
   · rw [List.getElem?_eq_none (by rw [M'.1,qcf]; omega),List.getElem?_eq_none (by rw [iL_len]; omega)]
  have e0:((0:Int),List.replicate ((clM s w).length:Int).toNat (0:Int))=(fun k:Nat=>((k:Int),iL (4*w.length) (fun j=>if phi (sw1 w c) c j<k then (phi w c (clm s w (phi (sw1 w c) c j)):Int) else 0))) 0:=by
   rw [Int.toNat_natCast,iL_rep,ml]; rfl
  rw [e0,e9]
  refine qce (fun k:Nat=>((k:Int),iL (4*w.length) (fun j=>if phi (sw1 w c) c j<k then (phi w c (clm s w (phi (sw1 w c) c j)):Int) else 0))) (4*w.length) (fun k hk=>?_) ?_ m (by omega)
  ·
   obtain ⟨q1,q2,_,_⟩:=M.2 k hk
   have hpk:phi w c k<4*w.length:=phi_lt hk
   unfold F.qbf
   dsimp only
   rw [dT (by omega),kT,qbl,q1,bB,move_phi hL hc hk,bB,move_phi hL hc q2,bB,qbl,qdw hpk,bB,qal (by omega) (by omega),bB,Int.toNat_natCast,iL_set]
   rw [show ((k:Int)+1)=((k+1:Nat):Int) from by omega]
   congr 3
   refine qdb fun j hj=>?_
   by_cases e:j=phi w c k
   · subst e; rw [if_pos rfl,hl,if_pos (show k<k+1 by omega)]
   ·
    have hne:phi (sw1 w c) c j≠k:=fun h=>e (by rw [←h,hr])
    rw [if_neg e]
    by_cases h:phi (sw1 w c) c j<k
    · rw [if_pos h,if_pos (show phi (sw1 w c) c j<k+1 by omega)]
    · rw [if_neg h,if_neg (show¬phi (sw1 w c) c j<k+1 by omega)]
  ·
   unfold F.qbf
   dsimp only
   rw [dF (by omega),kF]
   congr 3
   refine qdb fun j hj=>by rw [if_pos (hsl j hj)]
 unfold F.qgz
 rw [qht D m (by omega),bB,Bool.not_true,kF,dF (by omega),kF,dF (by omega),kF]
 unfold F.qdf F.qcb
 rw [pos_ok (by omega) (by omega),bB,pos_ok (by omega) (by omega),bB]
 unfold F.qbu
 rw [signs,bB]
 dsimp only
 rw [moves,bB,bB,bB]
end
open Gar Pg
noncomputable def bad (s:Nat) (w:List Int):Nat:=cnt w.length (fun c=> ¬Gd1 s w c)
section
variable {s : Nat} {w : List Int}
def ovl (w:List Int) (c:Nat):Nat:=4*c+(if 0<w.getD c 0 then 1 else 3)
theorem gd0_iff {c:Nat} (hc:c<w.length):Gd0 (w.map sgv) (clm s w) c↔Gd1 s w c:=by
 have e:ovo (w.map sgv) c=4*c+(if 0<w.getD c 0 then 1 else 3):=by
  unfold ovo
  rw [qbr (show c<(w.map sgv).length by rw [List.length_map]; exact hc),List.getElem_map,qbr hc]
  by_cases v:0<w[c]
  · rw [show sgv w[c]=1 from if_pos v,if_pos rfl,if_pos v]
  · rw [show sgv w[c]=-1 from if_neg v,if_neg (show¬((-1:Int)=1) by decide),if_neg v]
 unfold Gd0 Gd1 tk ky
 rw [e,List.length_map]
variable (hw : ∀ x ∈ w, x ≠ 0 ∧ -(s : Int) < x ∧ x < s) {c : Nat} (hc : c < w.length)
theorem ovl_out {k:Nat} (hk:k<w.length):ovl w k<4*w.length∧Outg (w.map sgv) (ovl w k):=by
 have h:ovl w k<4*w.length:=by unfold ovl; split<;>omega
 refine ⟨h,(qcu h).2 ⟨h,?_⟩⟩
 have e:ovl w k/ 4=k:=by unfold ovl; split<;>omega
 rw [e]
 unfold ovl
 split<;>omega
theorem udl_out {k:Nat} (hk:k<w.length):4*k+2<4*w.length∧Outg (w.map sgv) (4*k+2):=by
 have h:4*k+2<4*w.length:=by omega
 exact ⟨h,.inl (by omega)⟩
include hw hc
theorem gd_sw (hL:w.length≤64) {k:Nat} (hk:k<w.length):Gd1 s (sw1 w c) k↔if k=c then¬Gd1 s w k else Gd1 s w k:=by
 have h0:=c_ne hw hc
 obtain ⟨o1,o2⟩:=ovl_out hk
 obtain ⟨u1,u2⟩:=udl_out hk
 have K1:=key_sw hw hL hc o1 o2 u1 u2
 have K2:=key_sw hw hL hc u1 u2 o1 o2
 have P:=(qcp hw).iv.pn
 have ne:key (4*w.length) (nx (clm s w)) (ovl w k)≠key (4*w.length) (nx (clm s w)) (4*k+2):=fun e=>by
  have:=key_inj P o1 u1 e
  unfold ovl at this
  split at this<;>omega
 show key _ _ (ovl (sw1 w c) k)<key _ _ (4*k+2)↔_
 by_cases e:k=c
 ·
  subst e
  rw [if_pos rfl]
  show _↔¬(key _ _ (ovl w k)<key _ _ (4*k+2))
  have e1:ovl (sw1 w k) k=phi w k (4*k+2):=by
   unfold ovl phi turnN
   rw [sw1_at hc,if_pos rfl,if_pos (show (4*k+2)/ 4=k by omega)]
   by_cases v:0<w.getD k 0
   · rw [if_pos v,if_neg (show¬0< -(w.getD k 0) by omega)]; omega
   · rw [if_neg v,if_pos (show 0< -(w.getD k 0) by omega)]; omega
  have e2:4*k+2=phi w k (ovl w k):=by
   unfold ovl phi turnN
   by_cases v:0<w.getD k 0
   · rw [if_pos v,if_pos v,if_pos (show (4*k+1)/ 4=k by omega)]; omega
   · rw [if_neg v,if_neg v,if_pos (show (4*k+3)/ 4=k by omega)]; omega
  rw [←e1,←e2] at K2
  rw [K2]
  omega
 ·
  rw [if_neg e]
  have e1:ovl (sw1 w c) k=ovl w k:=by unfold ovl; rw [sw1_at hc,if_neg e]
  have e2:phi w c (ovl w k)=ovl w k:=if_neg (show¬ovl w k/ 4=c by unfold ovl; split<;>omega)
  have e3:phi w c (4*k+2)=4*k+2:=if_neg (show¬(4*k+2)/ 4=c by omega)
  rw [e2,e3] at K1
  rw [e1]
  exact K1
theorem bad_sw (hL:w.length≤64) (hb: ¬Gd1 s w c):bad s (sw1 w c)+1=bad s w:=by
 unfold bad
 rw [qcf]
 have h1:=qeg (N:=w.length) (p:=fun k=> ¬Gd1 s (sw1 w c) k) hc (by
  rw [gd_sw hw hc hL hc,if_pos rfl]
  exact fun h=>h hb)
 rw [←h1]
 refine qby fun k hk=>?_
 rw [gd_sw hw hc hL hk]
 by_cases e:k=c
 · subst e; rw [if_pos rfl]; simp [hb]
 · rw [if_neg e]; simp [e]
theorem ncp_le (hL:w.length≤64):ncp s w≤ncp s (sw1 w c):=by
 have h0:=c_ne hw hc
 unfold ncp
 refine Nat.add_le_add (cnt_inj (phi w c) (fun x hx h=>?_) (fun x y hx hy _ _ e=>phi_inj hc h0 e)) (cnt_mono fun p hp h=>?_)
 · refine ⟨by rw [qcf]; exact phi_lt hx,(outg_phi hw hc hx).2 h.1,(rep_sw' hw hL hc hx h.1).2 h.2⟩
 ·
  have:=lst_sw' (w:=w) hc (p:=p)
  omega
theorem ncp_sw (hL:w.length≤64):ncp s (sw1 w c)=ncp s w:=by
 refine Nat.le_antisymm ?_ (ncp_le hw hc hL)
 have:=ncp_le (sw1_rg hw hc) (c:=c) (by rw [qcf]; exact hc) (by rw [qcf]; exact hL)
 rwa [sw1_sw1 hc] at this
omit hc in
theorem des_run (hL:w.length≤64) {lo:Int} (l0:0≤lo) (l1:lo≤64) (m:Nat) (hm:500<m):(F.qcx m (w.map sgv) (clM s w) lo=some (-1,true)∧bad s w=0)∨∃c:Nat,c<w.length∧¬Gd1 s w c∧F.qcx m (w.map sgv) (clM s w) lo=some ((c:Int),false):=by
 have D:=clo_dv hw hL l0 l1
 rcases des_eq D m hm with ⟨h1,h2⟩ | ⟨c,h1,h2,h3⟩
 ·
  refine .inl ⟨h1,?_⟩
  unfold bad
  refine cnt_none fun c hc h=>h ?_
  rw [←gd0_iff hc]
  exact h2 c (by rw [List.length_map]; exact hc)
 ·
  rw [List.length_map] at h1
  exact .inr ⟨c,h1,fun h=>h2 ((gd0_iff h1).2 h),h3⟩
omit hw hc in
theorem bad_zero (h:bad s w=0) {c:Nat} (hc:c<w.length):Gd1 s w c:=by
 refine Classical.byContradiction fun q=>?_
 have h1:=qeg (p:=fun k=>k≠c∧¬Gd1 s w k) hc (fun q=>q.1 rfl)
 have h2:cnt w.length (fun h=>h=c∨(h≠c∧¬Gd1 s w h))=bad s w:=qby fun k _=>⟨fun z=>z.elim (fun e=>by rw [e]; exact q) (·.2),fun z=>if e:k=c then .inl e else .inr ⟨e,z⟩⟩
 omega
end
end Gl
end Go.Proofs.Ytkjpldmelafooaa

set_option linter.all false
namespace Go.Proofs.Ytkjpldmelafooaa
open Ev
theorem gget_put {κ ν:Type} [DecidableEq κ]: ∀(m:List (κ×ν)) (k:κ) (v:ν) (k':κ),gget (gput m k v) k'=if k'=k then some v else gget m k'
 | [],k,v,k'=>rfl
 | p::r,k,v,k'=>by
  unfold gput
  by_cases h:k=p.1
  ·
   rw [if_pos h]
   show (if k'=k then some v else gget r k')=_
   by_cases e:k'=k
   · rw [if_pos e,if_pos e]
   ·
    rw [if_neg e,if_neg e]
    show _=if k'=p.1 then some p.2 else gget r k'
    rw [if_neg (fun q=>e (q.trans h.symm))]
  ·
   rw [if_neg h]
   show (if k'=p.1 then some p.2 else gget (gput r k v) k')=_
   rw [gget_put r k v k']
   show _=if k'=k then some v else if k'=p.1 then some p.2 else gget r k'
   by_cases e:k'=p.1
   · rw [if_pos e,if_pos e,if_neg (fun q=>h (q.symm.trans e))]
   · rw [if_neg e,if_neg e]
namespace Gl
open Gar Pg
section
variable {s : Nat} {w : List Int} (hw : ∀ x ∈ w, x ≠ 0 ∧ -(s : Int) < x ∧ x < s) (hL : w.length ≤ 64) {c : Nat} (hc : c < w.length)
theorem jn_lt (hc:c<w.length) (x:Nat):jn w c x<4*w.length:=by have:=jn_div (w:=w) (c:=c) x; omega
include hw hc
theorem own_jn {x:Nat} (hx:x/ 4=c) (hi:InW w w.length x) (hg:clm s w x/ 4=c):clm s w x=jn w c x:=by
 have M:=qcp hw
 have hxl:=hi.1
 have hb:=M.2 x hxl
 have hgo:OuW w w.length (clm s w x):=by
  have:=clm_out hw x hxl
  rw [qcu hb.2.1,qcu hxl] at this
  exact this.2 fun k=>ou_in k hi
 obtain ⟨p,p1,p2,p3,p4⟩:=out_at (c:=c) hw hgo
 rw [hb.2.2.1] at p3
 have hl:=qdk p2 (show clm s w x/ 4<w.length by have:=hb.2.1; omega)
 have hip:=ipos_Vv hw p1 hl (k:=clm s w x/ 4+1) (by have:=hb.2.1; omega)
 rw [←p3] at hip
 exact ((p4 hg).2 x hx hi hip).symm
def SeenK (s:Nat) (w:List Int) (c k x:Nat):Prop:= ∃h,h<k∧h/ 4≠c∧clm s w h/ 4=c∧(x=clm s w h∨x=jn w c (clm s w h))
theorem seen_own {x:Nat} (hx:x/ 4=c) (hi:InW w w.length x):SeenK s w c (4*w.length) x↔¬clm s w x/ 4=c:=by
 have M:=qcp hw
 have hb:=M.2 x hi.1
 constructor
 ·
  rintro ⟨h,h1,h2,h3,h4⟩ hg
  have hbh:=M.2 h h1
  rcases h4 with e | e
  · rw [e,hbh.2.2.1] at hg; exact h2 hg
  ·
   have e2:=own_jn hw hc hx hi hg
   rw [e,jn_jn h3] at e2
   rw [e] at hg
   have:clm s w (clm s w h)=jn w c (clm s w h):=by
    have:=(M.2 _ (jn_lt hc (clm s w h))).2.2.1
    rwa [e2] at this
   rw [hbh.2.2.1] at this
   rw [this,jn_div] at h2
   exact h2 rfl
 ·
  intro hg
  exact ⟨clm s w x,hb.2.1,hg,by rw [hb.2.2.1]; exact hx,.inl hb.2.2.1.symm⟩
omit hw hc in
theorem dv4 (h:Nat):Int.tdiv (h:Int) 4=((h/ 4:Nat):Int):=Int.ofNat_tdiv h 4
def JnM (w:List Int) (c:Nat) (J:List (Int×Int)):Prop:= ∀x:Nat,x/ 4=c→(gget J (x:Int)).getD 0=(jn w c x:Int)
def SnM (q:List (Int×Bool)) (S:Nat→Prop):Prop:= ∀x:Nat,(gget q (x:Int)).getD false=true↔S x
omit hw hc in
theorem SnM.put {q:List (Int×Bool)} {S:Nat→Prop} (h:SnM q S) (a b:Nat):SnM (gput (gput q (a:Int) true) (b:Int) true) (fun x=>x=b∨x=a∨S x):=fun x=>by
 rw [gget_put,gget_put]
 by_cases e:x=b
 · rw [if_pos (by omega)]; simp [e]
 ·
  rw [if_neg (by omega)]
  by_cases e2:x=a
  · rw [if_pos (by omega)]; simp [e2]
  · rw [if_neg (by omega),h x]; simp [e,e2]
include hL
theorem b3_run {J:List (Int×Int)} (hJ:JnM w c J) {h:Nat} (hh:h<4*w.length) (hne:h/ 4≠c) {q:List (Int×Bool)} {S:Nat→Prop} (hq:SnM q S) (m:Nat) (hm:10<m):
  ∃q',loopN m (F.qes m (clM s w) (c:Int) J) ((clm s w h:Int),q)=some ((skp s w c (clm s w h):Int),q')∧SnM q' (fun x=>S x∨(clm s w h/ 4=c∧(x=clm s w h∨x=jn w c (clm s w h)))):=by
 have M:=qcp hw
 have hb:=M.2 h hh
 obtain ⟨n1,n2⟩:=skp_ne hw hc hh hne
 have stop: ∀(g:Nat) (q:List (Int×Bool)),g<4*w.length→g/ 4≠c→F.qes m (clM s w) (c:Int) J ((g:Int),q)=some (.inr ((g:Int),q)):=fun g q hg hgc=>by
  unfold F.qes
  dsimp only
  rw [nz_ok (by decide),bB,dv4,qal (by omega) (by omega),bB,dF (by omega),kF]
 by_cases e:clm s w h/ 4=c
 ·
  refine ⟨gput (gput q (clm s w h:Int) true) (jn w c (clm s w h):Int) true,?_,fun x=>?_⟩
  ·
   have hj:=jn_lt hc (clm s w h)
   have hbj:=M.2 _ hj
   have es:skp s w c (clm s w h)=clm s w (jn w c (clm s w h)):=if_pos e
   refine qce (fun k:Nat=>if k=0 then ((clm s w h:Int),q) else ((skp s w c (clm s w h):Int),gput (gput q (clm s w h:Int) true) (jn w c (clm s w h):Int) true)) 1 (fun k hk=>?_) ?_ m (by omega)
   ·
    obtain rfl:k=0:=by omega
    rw [if_pos rfl,if_neg (by decide)]
    unfold F.qes
    dsimp only
    rw [nz_ok (by decide),bB,dv4,qal (by omega) (by omega),bB,dT (by omega),kT,bB,hJ _ e,qbl,hbj.1,bB,es]
   ·
    rw [if_neg (by decide)]
    exact stop _ _ n2 n1
  ·
   rw [hq.put (clm s w h) (jn w c (clm s w h)) x]
   constructor
   ·
    rintro (h | h | h)
    · exact .inr ⟨e,.inr h⟩
    · exact .inr ⟨e,.inl h⟩
    · exact .inl h
   ·
    rintro (h | ⟨_,h | h⟩)
    · exact .inr (.inr h)
    · exact .inr (.inl h)
    · exact .inl h
 ·
  refine ⟨q,?_,fun x=>by rw [hq x]; simp [e]⟩
  have es:skp s w c (clm s w h)=clm s w h:=if_neg e
  rw [es]
  exact qce (fun _:Nat=>((clm s w h:Int),q)) 0 (fun k hk=>absurd hk (Nat.not_lt_zero k)) (stop _ _ hb.2.1 e) m (by omega)
def mtk (s:Nat) (w:List Int) (c k:Nat):List Int:=iL (4*w.length) (fun h=>if h/ 4≠c∧h<k then (skp s w c (clm s w h):Int) else (clm s w h:Int))
omit hL hc in
theorem mtk0:mtk s w c 0=clM s w:=by
 have M:=qcp hw
 apply List.ext_getElem?
 intro j
 unfold mtk
 by_cases hj:j<4*w.length
 · rw [qdw hj,(M.2 j hj).1,if_neg (by omega)]
 · rw [List.getElem?_eq_none (by rw [iL_len]; omega),List.getElem?_eq_none (by rw [M.1]; omega)]
theorem b2_run {J:List (Int×Int)} (hJ:JnM w c J) (m:Nat) (hm:500<m):
  ∃q',loopN m (F.qem m (clM s w) (c:Int) J) (0,clM s w,[])=some (((4*w.length:Nat):Int),mtk s w c (4*w.length),q')∧SnM q' (SeenK s w c (4*w.length)):=by
 have M:=qcp hw
 obtain ⟨r,h1,h2⟩:=qez (body:=F.qem m (clM s w) (c:Int) J)
  (fun st=> ∃(k:Nat) (q:List (Int×Bool)),st=((k:Int),mtk s w c k,q)∧k≤4*w.length∧SnM q (SeenK s w c k))
  (fun st=>4*w.length-st.1.toNat)
  (fun r=> ∃q',r=(((4*w.length:Nat):Int),mtk s w c (4*w.length),q')∧SnM q' (SeenK s w c (4*w.length)))
  (fun st hst=>by
   obtain ⟨k,q,rfl,hk,hq⟩:=hst
   by_cases e:k<4*w.length
   ·
    left
    have hb:=M.2 k e
    unfold F.qem
    dsimp only
    rw [M.1,dT (by omega),kT,qbl,hb.1,bB,nz_ok (by decide),bB,dv4,qal (by omega) (by omega),bB]
    by_cases ec:k/ 4=c
    ·
     rw [dT (by omega),kT,qal (by omega) (by omega),bB]
     refine ⟨_,rfl,⟨k+1,q,?_,by omega,fun x=>?_⟩,by omega⟩
     ·
      refine Prod.ext rfl (Prod.ext (qdb fun j hj=>?_) rfl)
      by_cases h1:j/ 4≠c∧j<k
      · rw [if_pos h1,if_pos ⟨h1.1,by omega⟩]
      · rw [if_neg h1,if_neg (fun h2=>h1 ⟨h2.1,by have:j≠k:=fun z=>h2.1 (z▸ec); omega⟩)]
     ·
      rw [hq x]
      constructor
      · rintro ⟨h,z1,z2⟩; exact ⟨h,by omega,z2⟩
      ·
       rintro ⟨h,z1,z2⟩
       exact ⟨h,by have:h≠k:=fun z=>z2.1 (z▸ec); omega,z2⟩
    ·
     obtain ⟨q',r1,r2⟩:=b3_run hw hL hc hJ e ec hq m (by omega)
     have hgk:(mtk s w c k)[k]? =some (clm s w k:Int):=by
      unfold mtk
      rw [qdw e,if_neg (fun h=>by omega)]
     rw [dF (by omega),kF,r1,bB]
     dsimp only
     rw [qbl,hgk,bB,qal (by omega) (by omega),bB,Int.toNat_natCast]
     refine ⟨_,rfl,⟨k+1,q',?_,by omega,fun x=>?_⟩,by omega⟩
     ·
      refine Prod.ext rfl (Prod.ext ?_ rfl)
      show (iL _ _).set k _=iL _ _
      rw [iL_set]
      refine qdb fun j hj=>?_
      by_cases ej:j=k
      · subst ej; rw [if_pos rfl,if_pos ⟨ec,by omega⟩]
      ·
       rw [if_neg ej]
       by_cases h1:j/ 4≠c∧j<k
       · rw [if_pos h1,if_pos ⟨h1.1,by omega⟩]
       · rw [if_neg h1,if_neg (fun h2=>h1 ⟨h2.1,by omega⟩)]
     ·
      rw [r2 x]
      constructor
      ·
       rintro (⟨h,z1,z2⟩ | ⟨z1,z2⟩)
       · exact ⟨h,by omega,z2⟩
       · exact ⟨k,by omega,ec,z1,z2⟩
      ·
       rintro ⟨h,z1,z2⟩
       by_cases ek:h=k
       · subst ek; exact .inr z2.2
       · exact .inl ⟨h,by omega,z2⟩
   ·
    right
    obtain rfl:k=4*w.length:=by omega
    refine ⟨(((4*w.length:Nat):Int),mtk s w c (4*w.length),q),?_,q,rfl,hq⟩
    unfold F.qem
    dsimp only
    rw [M.1,dF (by omega),kF])
  m (0,clM s w,[]) ⟨0,[],by rw [mtk0 hw]; rfl,by omega,fun x=>by
   constructor
   · intro h; cases h
   · rintro ⟨h,z1,_⟩; omega⟩ (by show 4*w.length-Int.toNat 0<m; omega)
 obtain ⟨q',e,hq⟩:=h2
 exact ⟨q',by rw [h1,e],hq⟩
omit hL in
theorem b4_step {J:List (Int×Int)} (hJ:JnM w c J) {x y:Nat} (hx:x/ 4=c) (hi:InW w w.length x) (hy:y/ 4=c) (hiy:InW w w.length y) (hxy:x≠y) {q:List (Int×Bool)} {S:Nat→Prop} (hq:SnM q S)
  (hS:S x↔¬clm s w x/ 4=c) {z v v0:Int} {i:Nat} {lo:Nat} (hg:([z,v]:List Int)[i]? =some (x:Int)) (hi2:i<2) (hlo:lo<1000) (m:Nat) (hm:10<m):
  ∃q' S',F.qdv m (clM s w) z v J ((lo:Int),(i:Int),q)=some (.inl (((lo+(if clm s w x/ 4=c then 1 else 0):Nat):Int),((i+1:Nat):Int),q'))∧SnM q' S'∧(S' y↔S y):=by
 have M:=qcp hw
 have hb:=M.2 x hi.1
 have hqx:=hq x
 have pre:F.qdv m (clM s w) z v J ((lo:Int),(i:Int),q)=cond ((gget q (x:Int)).getD false) (some (.inl ((lo:Int),((i+1:Nat):Int),q))) ((loopN m (F.qeq m (clM s w) J) ((x:Int),q)).bind fun o308=>match o308 with
  | (v18_5,qf192_5)=>some (.inl (((lo+1:Nat):Int),((i+1:Nat):Int),qf192_5))):=by
  unfold F.qdv
  dsimp only
  rw [dT (show (i:Int)<(([z,v]:List Int).length:Int) by simp; omega),kT,qbl,hg,bB,bB,qal (show -9223372036854775808≤(i:Int)+1 by omega) (by omega),bB,qal (show -9223372036854775808≤(lo:Int)+1 by omega) (by omega),bB]
  cases (gget q (x:Int)).getD false
  ·
   rw [kF,kF]
   congr 1
  · rfl
 rw [pre]
 by_cases e:clm s w x/ 4=c
 ·
  have hnS: ¬S x:=fun h=>hS.1 h e
  have hf:(gget q (x:Int)).getD false=false:=by
   cases h:(gget q (x:Int)).getD false with
   | false=>rfl
   | true=>exact absurd (hqx.1 h) hnS
  have ej:=own_jn hw hc hx hi e
  have hj:=jn_lt hc x
  have hbj:=M.2 _ hj
  have e3:clm s w (jn w c x)=x:=by rw [←ej,hb.2.2.1]
  have hlp:loopN m (F.qeq m (clM s w) J) ((x:Int),q)=some ((x:Int),gput (gput q (x:Int) true) (jn w c x:Int) true):=by
   refine qce (fun k:Nat=>if k=0 then ((x:Int),q) else ((x:Int),gput (gput q (x:Int) true) (jn w c x:Int) true)) 1 (fun k hk=>?_) ?_ m (by omega)
   ·
    obtain rfl:k=0:=by omega
    rw [if_pos rfl,if_neg (by decide)]
    unfold F.qeq
    dsimp only
    rw [bB,hf,Bool.not_false,kT,bB,bB,hJ _ hx,qbl,hbj.1,bB,e3]
   ·
    rw [if_neg (by decide)]
    unfold F.qeq
    dsimp only
    rw [bB,((hq.put x (jn w c x)) x).2 (.inr (.inl rfl)),Bool.not_true,kF]
  rw [hf,kF,hlp,bB,if_pos e]
  refine ⟨_,_,rfl,hq.put x (jn w c x),?_⟩
  have hjo:=jn_ou hc hx hi
  constructor
  ·
   rintro (h | h | h)
   · exact (ou_in hjo (h▸hiy)).elim
   · exact absurd h.symm hxy
   · exact h
  · exact fun h=>.inr (.inr h)
 ·
  rw [hqx.2 (hS.2 e),kT,if_neg e]
  exact ⟨q,S,rfl,hq,Iff.rfl⟩
omit hL in
theorem b4_run {J:List (Int×Int)} (hJ:JnM w c J) {x y:Nat} (hx:x/ 4=c) (hi:InW w w.length x) (hy:y/ 4=c) (hiy:InW w w.length y) (hxy:x≠y) {q:List (Int×Bool)} (hq:SnM q (SeenK s w c (4*w.length)))
  {lo:Nat} (hlo:lo<500) (m:Nat) (hm:10<m):
  ∃q',loopN m (F.qdv m (clM s w) (x:Int) (y:Int) J) ((lo:Int),0,q)=some (((lo+(if clm s w x/ 4=c then 1 else 0)+(if clm s w y/ 4=c then 1 else 0):Nat):Int),2,q'):=by
 obtain ⟨q1,S1,r1,s1,t1⟩:=b4_step hw hc hJ hx hi hy hiy hxy hq (seen_own hw hc hx hi) (z:=(x:Int)) (v:=(y:Int)) (v0:=0) (i:=0) (lo:=lo) rfl (by omega) (by omega) m hm
 obtain ⟨q2,S2,r2,s2,t2⟩:=b4_step hw hc hJ hy hiy hx hi hxy.symm s1 (t1.trans (seen_own hw hc hy hiy)) (z:=(x:Int)) (v:=(y:Int)) (v0:=0) (i:=1) (lo:=lo+(if clm s w x/ 4=c then 1 else 0)) rfl (by omega) (by split<;>omega) m hm
 refine ⟨q2,?_⟩
 refine qce (fun k:Nat=>if k=0 then ((lo:Int),(0:Int),q) else if k=1 then (((lo+(if clm s w x/ 4=c then 1 else 0):Nat):Int),(1:Int),q1) else (((lo+(if clm s w x/ 4=c then 1 else 0)+(if clm s w y/ 4=c then 1 else 0):Nat):Int),(2:Int),q2)) 2 (fun k hk=>?_) ?_ m (by omega)
 ·
  rcases (show k=0∨k=1 by omega) with rfl | rfl
  · exact r1
  · exact r2
 ·
  unfold F.qdv
  rfl
omit hL in
theorem lps_er {x y:Nat} (hx:x=4*c+inL (w.getD c 0)) (hy:y=4*c+inR (w.getD c 0)):(lpz (stC (er w c) (er w c).length) s).length=(lpz (stC w w.length) s).length+(if clm s w x/ 4=c then 1 else 0)+(if clm s w y/ 4=c then 1 else 0):=by
 obtain ⟨v0,v1,v2⟩:=qck hw hc
 obtain ⟨a1,a2,_,_⟩:=io_lt (w.getD c 0)
 have tol: ∀(p:Nat→Prop) [DecidablePred p] (l:List Nat),(l.filter fun h=>decide (p h)).length=(l.filter fun h=>@decide (p h) (Classical.propDecidable _)).length:=fun p _ l=>by
  congr 1
  exact List.filter_congr fun h _=>decide_eq_decide.mpr Iff.rfl
 have cl: ∀u:List Int,(lpz (stC u u.length) s).length=cnt s (fun p=>(stC u u.length).lst p<0):=fun u=>tol (fun p=>(stC u u.length).lst p<0) _
 rw [cl,cl]
 have ix:x/ 4=c∧InW w w.length x:=by rw [hx]; exact ⟨by omega,⟨by omega,((in_step w c _).1 (.inl (.inr rfl))).2⟩⟩
 have iy:y/ 4=c∧InW w w.length y:=by rw [hy]; exact ⟨by omega,⟨by omega,((in_step w c _).1 (.inr rfl)).2⟩⟩
 have hd:inR (w.getD c 0)≠inL (w.getD c 0):=by
  unfold inL inR
  by_cases q:0<w.getD c 0
  · rw [if_pos q,if_pos q]; decide
  · rw [if_neg q,if_neg q]; decide
 have px:ipos w x=(w.getD c 0).natAbs-1:=by
  unfold ipos
  rw [hx,show (4*c+inL (w.getD c 0))/ 4=c by omega,if_pos (by omega)]
 have py:ipos w y=(w.getD c 0).natAbs:=by
  unfold ipos
  rw [hy,show (4*c+inR (w.getD c 0))/ 4=c by omega,if_neg (by omega)]
 have ox:=own_iff hw hc ix.1 ix.2
 have oy:=own_iff hw hc iy.1 iy.2
 rw [px] at ox
 rw [py] at oy
 have low: ∀p,p≠(w.getD c 0).natAbs-1→p≠(w.getD c 0).natAbs→((stC (er w c) (er w c).length).lst p<0↔(stC w w.length).lst p<0):=fun p h1 h2=>by
  have h:=lst_er (w:=w) (c:=c) hc (p:=p)
  constructor
  ·
   intro q
   by_cases z:(stC w w.length).lst p<0
   · exact z
   ·
    obtain ⟨j,j1,j2⟩:=lst_of (show 0≤(stC w w.length).lst p by omega)
    have hjc:j≠c:=fun e=>by subst e; rcases j2 with e | e<;>omega
    have:=h.2 ⟨j,j1,hjc,j2⟩
    omega
  ·
   intro q
   by_cases z:(stC (er w c) (er w c).length).lst p<0
   · exact z
   ·
    obtain ⟨j,j1,_,j2⟩:=h.1 (by omega)
    have:=qdk j2 j1
    omega
 have b1:=qdk (w:=w) (j:=c) (p:=(w.getD c 0).natAbs-1) (.inl rfl) hc
 have b2:=qdk (w:=w) (j:=c) (p:=(w.getD c 0).natAbs) (.inr rfl) hc
 have mid:cnt s (fun p=>(stC (er w c) (er w c).length).lst p<0)=cnt s (fun p=>(p=(w.getD c 0).natAbs∧clm s w y/ 4=c)∨(p=(w.getD c 0).natAbs-1∧clm s w x/ 4=c)∨(stC w w.length).lst p<0):=qby fun p hp=>by
  by_cases e1:p=(w.getD c 0).natAbs
  ·
   subst e1
   rw [←oy]
   constructor
   · intro h; exact .inl ⟨rfl,h⟩
   ·
    rintro (h | h | h)
    · exact h.2
    · omega
    · omega
  ·
   by_cases e2:p=(w.getD c 0).natAbs-1
   ·
    subst e2
    rw [←ox]
    constructor
    · intro h; exact .inr (.inl ⟨rfl,h⟩)
    ·
     rintro (h | h | h)
     · omega
     · exact h.2
     · omega
   ·
    rw [low p e2 e1]
    exact ⟨fun h=>.inr (.inr h),fun h=>h.elim (fun q=>absurd q.1 e1) fun h=>h.elim (fun q=>absurd q.1 e2) id⟩
 rw [mid]
 have one: ∀(a:Nat) (P:Prop) (q:Nat→Prop) [Decidable P],a<s→¬q a→cnt s (fun p=>(p=a∧P)∨q p)=cnt s q+(if P then 1 else 0):=fun a P q _ ha hq=>by
  by_cases e:P
  ·
   rw [if_pos e,←qeg ha hq]
   exact qby fun k _=>by simp [e]
  ·
   rw [if_neg e]
   exact qby fun k _=>by simp [e]
 rw [one _ _ _ v2 (by
   rintro (h | h)
   · omega
   · omega),one _ _ _ (by omega) (by omega)]
omit hw hL in
theorem sgv_er {k:Nat} (hk:k<(er w c).length):((er w c).map sgv)[k]? =(w.map sgv)[tau c k]? :=by
 have h2:=tau_lt hc hk
 have:=er_at (w:=w) (c:=c) k
 rw [qbr hk,qbr h2] at this
 rw [List.getElem?_map,List.getElem?_map,gE hk,gE h2,this]
theorem without_run {lo:Int} (m:Nat) (hm:500<m):F.qhn m (w.map sgv) (mtk s w c (4*w.length)) (c:Int) lo=some ((er w c).map sgv,clM s (er w c),lo):=by
 have M:=qcp hw
 have hw':=er_rg (c:=c) hw
 have M':=qcp hw'
 have hel:=er_len hc
 have hln:(w.map sgv).length=w.length:=List.length_map ..
 have hln':((er w c).map sgv).length=(er w c).length:=List.length_map ..
 let kk:Nat→Nat:=fun k=>if k≤c then k else k-1
 let st:Nat→Int×List Int×List Int:=fun k=>((k:Int),((er w c).map sgv).take (kk k),(clM s (er w c)).take (4*kk k))
 have hlp:loopN m (F.qdl m (w.map sgv) (mtk s w c (4*w.length)) (c:Int)) (0,[],[])=some ((w.length:Int),(er w c).map sgv,clM s (er w c)):=by
  have hend:st w.length=((w.length:Int),(er w c).map sgv,clM s (er w c)):=by
   have:kk w.length=(er w c).length:=by show (if w.length≤c then _ else _)=_; rw [if_neg (by omega),hel]
   show ((w.length:Int),_,_)=_
   rw [this,List.take_of_length_le (by omega),List.take_of_length_le (by rw [M'.1]; omega)]
  rw [←hend]
  have h0:((0:Int),([]:List Int),([]:List Int))=st 0:=by
   have:kk 0=0:=if_pos (Nat.zero_le _)
   show _=(((0:Nat):Int),List.take (kk 0) _,List.take (4*kk 0) _)
   rw [this]; rfl
  rw [h0]
  refine qce st w.length (fun k hk=>?_) ?_ m (by omega)
  ·
   show F.qdl m _ _ _ ((k:Int),_,_)=some (.inl (((k+1:Nat):Int),_,_))
   unfold F.qdl
   dsimp only
   rw [dT (by omega),kT,qbl,List.getElem?_map,gE hk]
   show (some (sgv w[k])).bind _=_
   rw [bB]
   by_cases e:k=c
   ·
    have e1:kk (k+1)=kk k:=by show (if _ then _ else _)=if _ then _ else _; rw [if_neg (by omega),if_pos (by omega)]; omega
    rw [dT (by omega),kT,qal (by omega) (by omega),bB,e1]
    rfl
   ·
    have ek:kk k<(er w c).length∧tau c (kk k)=k∧kk (k+1)=kk k+1:=by
     show (if _ then _ else _)<_∧tau c (if _ then _ else _)=k∧(if _ then _ else _)=(if _ then _ else _)+1
     by_cases q:k≤c
     ·
      rw [if_pos q,if_pos (show k+1≤c by omega)]
      exact ⟨by omega,if_pos (by omega),rfl⟩
     ·
      rw [if_neg q,if_neg (show¬k+1≤c by omega)]
      refine ⟨by omega,?_,by omega⟩
      unfold tau; rw [if_neg (by omega)]; omega
    obtain ⟨k1,k2,k3⟩:=ek
    have hsg:((er w c).map sgv).take (kk k+1)=((er w c).map sgv).take (kk k)++[sgv w[k]]:=by
     rw [List.take_add_one,sgv_er hc k1,k2,List.getElem?_map,gE hk]
     rfl
    have h4: ∀r,r<4→(clM s (er w c)).take (4*kk k+(r+1))=(clM s (er w c)).take (4*kk k+r)++[((sgm c (skp s w c (clm s w (4*k+r))):Nat):Int)]:=fun r hr=>by
     have hh:4*k+r<4*w.length:=by omega
     have e5:=clm_er hw hc hh (by omega)
     have e6:sgm c (4*k+r)=4*kk k+r:=by
      unfold sgm
      show _=4*(if k≤c then k else k-1)+r
      by_cases q:k≤c
      · rw [if_pos q,if_neg (by omega)]
      · rw [if_neg q,if_pos (by omega)]; omega
     rw [e6] at e5
     rw [←Nat.add_assoc,List.take_add_one,(M'.2 (4*kk k+r) (by omega)).1,e5]
     rfl
    have hin:loopN m (F.qfh m (mtk s w c (4*w.length)) (c:Int) (k:Int)) (0,(clM s (er w c)).take (4*kk k))=some (4,(clM s (er w c)).take (4*kk k+4)):=by
     refine qce (fun r:Nat=>((r:Int),(clM s (er w c)).take (4*kk k+r))) 4 (fun r hr=>?_) ?_ m (by omega)
     ·
      have hh:4*k+r<4*w.length:=by omega
      obtain ⟨n1,n2⟩:=skp_ne hw hc hh (show (4*k+r)/ 4≠c by omega)
      have hg:(mtk s w c (4*w.length))[4*k+r]? =some (skp s w c (clm s w (4*k+r)):Int):=by
       unfold mtk
       rw [qdw hh,if_pos ⟨by omega,hh⟩]
      have hlt:=List.length_take_le (4*kk k+r) (clM s (er w c))
      unfold F.qfh
      dsimp only
      rw [dT (by omega),kT,qal (by omega) (by omega),bB,qal (by omega) (by omega),bB,show (4*(k:Int)+(r:Int))=((4*k+r:Nat):Int) by omega,qbl,hg,bB,nz_ok (by decide),bB,dv4,qal (by omega) (by omega),bB,h4 r hr]
      have hll: ∀z:Int,((clM s (er w c)).take (4*kk k+r)).length+([z]:List Int).length≤1099511627776:=fun z=>by
       have:([z]:List Int).length=1:=rfl
       omega
      by_cases q:c<skp s w c (clm s w (4*k+r))/ 4
      ·
       rw [dT (by omega),kT,qal (by omega) (by omega),bB,lim_ok (hll _),bB,qal (by omega) (by omega),bB,show sgm c (skp s w c (clm s w (4*k+r)))=skp s w c (clm s w (4*k+r))-4 from if_pos q,show ((skp s w c (clm s w (4*k+r))-4:Nat):Int)=(skp s w c (clm s w (4*k+r)):Int)-4 by omega]
       rfl
      ·
       rw [dF (by omega),kF,lim_ok (hll _),bB,qal (by omega) (by omega),bB,show sgm c (skp s w c (clm s w (4*k+r)))=skp s w c (clm s w (4*k+r)) from if_neg q]
       rfl
     ·
      unfold F.qfh
      rfl
    have hlt:=List.length_take_le (kk k) ((er w c).map sgv)
    have hl1:(((er w c).map sgv).take (kk k)).length+([sgv w[k]]:List Int).length≤1099511627776:=by
     have:([sgv w[k]]:List Int).length=1:=rfl
     omega
    rw [dF (by omega),kF,lim_ok hl1,bB,hin,bB]
    dsimp only
    rw [qal (by omega) (by omega),bB,k3,hsg]
    rfl
  ·
   show F.qdl m _ _ _ ((w.length:Int),_,_)=some (.inr ((w.length:Int),_,_))
   unfold F.qdl
   dsimp only
   rw [dF (by omega),kF]
 unfold F.qhn
 rw [hlp,bB]
theorem smooth_eq (m:Nat) (hm:500<m) (hs:s≤30):F.qgx m (w.map sgv) (clM s w) ((lpz (stC w w.length) s).length:Int) (c:Int)=some ((er w c).map sgv,clM s (er w c),((lpz (stC (er w c) (er w c).length) s).length:Int),0):=by
 have hlo:=lpz_len (stC w w.length) s
 have D:=clo_dv hw hL (lo:=((lpz (stC w w.length) s).length:Int)) (by omega) (by omega)
 have hln:(w.map sgv).length=w.length:=List.length_map ..
 have M:=qcp hw
 obtain ⟨a1,a2,_,_⟩:=io_lt (w.getD c 0)
 obtain ⟨v0,_,_⟩:=qck hw hc
 have tail: ∀(J:List (Int×Int)) (x y:Nat),JnM w c J→x/ 4=c→InW w w.length x→y/ 4=c→InW w w.length y→x≠y→((x=4*c+inL (w.getD c 0)∧y=4*c+inR (w.getD c 0))∨(x=4*c+inR (w.getD c 0)∧y=4*c+inL (w.getD c 0)))→
   F.qgt m (w.map sgv) (clM s w) ((lpz (stC w w.length) s).length:Int) (c:Int) (x:Int) (y:Int) J=some ((er w c).map sgv,clM s (er w c),((lpz (stC (er w c) (er w c).length) s).length:Int),0):=fun J x y hJ hx hi hy hiy hxy hor=>by
  obtain ⟨q,r1,r2⟩:=b2_run hw hL hc hJ m hm
  obtain ⟨q2,r3⟩:=b4_run hw hc hJ hx hi hy hiy hxy r2 (lo:=(lpz (stC w w.length) s).length) (by omega) m (by omega)
  have el:(lpz (stC (er w c) (er w c).length) s).length=(lpz (stC w w.length) s).length+(if clm s w x/ 4=c then 1 else 0)+(if clm s w y/ 4=c then 1 else 0):=by
   rcases hor with ⟨h1,h2⟩ | ⟨h1,h2⟩
   · exact lps_er hw hc h1 h2
   ·
    have:=lps_er hw hc h2 h1
    omega
  have hlo':=lpz_len (stC (er w c) (er w c).length) s
  have hcl:F.qcm m (clM s w)=some (clM s w):=by
   unfold F.qcm
   rw [lim_ok (by rw [M.1]; show 0+_≤_; omega),bB]
   rfl
  unfold F.qgt
  rw [hcl,bB,r1,bB]
  dsimp only
  rw [r3,bB]
  dsimp only
  rw [←el,dF (by omega),kF,without_run hw hL hc m hm,bB]
 unfold F.qgx
 rw [qht D m (by omega),bB,Bool.not_true,kF,dF (by omega),kF,dF (by omega),kF,qal (by omega) (by omega),bB,qal (by omega) (by omega),bB,qal (by omega) (by omega),bB,qbl,List.getElem?_map,gE hc]
 show (some (sgv w[c])).bind _=_
 have iL4:InW w w.length (4*c+inL (w.getD c 0)):=⟨by omega,((in_step w c _).1 (.inl (.inr rfl))).2⟩
 have iR4:InW w w.length (4*c+inR (w.getD c 0)):=⟨by omega,((in_step w c _).1 (.inr rfl)).2⟩
 rw [bB]
 unfold F.qgu
 have nd: ∀a b d e:Int,a≠b→a≠d→a≠e→b≠d→b≠e→d≠e→dist [a,b,d,e]=some ():=fun a b d e h1 h2 h3 h4 h5 h6=>if_pos (by simp [h1,h2,h3,h4,h5,h6])
 by_cases v:0<w.getD c 0
 ·
  have v':0<w[c]:=by rwa [qbr hc] at v
  have jm:JnM w c [(4*(c:Int),4*(c:Int)+1),(4*(c:Int)+1,4*(c:Int)),(4*(c:Int)+3,4*(c:Int)+2),(4*(c:Int)+2,4*(c:Int)+3)]:=fun x hx=>by
   unfold jn
   simp only [gget]
   rw [if_pos v]
   rcases (show x=4*c∨x=4*c+1∨x=4*c+2∨x=4*c+3 by omega) with e | e | e | e
   · rw [if_pos (by omega),Option.getD_some]; omega
   · rw [if_neg (by omega),if_pos (by omega),Option.getD_some]; omega
   · rw [if_neg (by omega),if_neg (by omega),if_neg (by omega),if_pos (by omega),Option.getD_some]; omega
   · rw [if_neg (by omega),if_neg (by omega),if_pos (by omega),Option.getD_some]; omega
  have eR:inR (w.getD c 0)=0:=if_pos v
  have eL:inL (w.getD c 0)=3:=if_pos v
  have T:=tail _ (4*c) (4*c+3) jm (by omega) (by rw [eR] at iR4; exact iR4) (by omega) (by rw [eL] at iL4; exact iL4) (by omega) (.inr ⟨by omega,by omega⟩)
  rw [show sgv w[c]=1 from if_pos v',dF (by decide),kF,qal (by omega) (by omega),bB,bB,nd _ _ _ _ (by omega) (by omega) (by omega) (by omega) (by omega) (by omega),bB]
  rw [show ((4*c:Nat):Int)=4*(c:Int) by omega,show ((4*c+3:Nat):Int)=4*(c:Int)+3 by omega] at T
  exact T
 ·
  have v': ¬0<w[c]:=by rwa [qbr hc] at v
  have jm:JnM w c [(4*(c:Int),4*(c:Int)+3),(4*(c:Int)+3,4*(c:Int)),(4*(c:Int)+1,4*(c:Int)+2),(4*(c:Int)+2,4*(c:Int)+1)]:=fun x hx=>by
   unfold jn
   simp only [gget]
   rw [if_neg v]
   rcases (show x=4*c∨x=4*c+1∨x=4*c+2∨x=4*c+3 by omega) with e | e | e | e
   · rw [if_pos (by omega),Option.getD_some]; omega
   · rw [if_neg (by omega),if_neg (by omega),if_pos (by omega),Option.getD_some]; omega
   · rw [if_neg (by omega),if_neg (by omega),if_neg (by omega),if_pos (by omega),Option.getD_some]; omega
   · rw [if_neg (by omega),if_pos (by omega),Option.getD_some]; omega
  have eR:inR (w.getD c 0)=1:=if_neg v
  have eL:inL (w.getD c 0)=0:=if_neg v
  have T:=tail _ (4*c) (4*c+1) jm (by omega) (by rw [eL] at iL4; exact iL4) (by omega) (by rw [eR] at iR4; exact iR4) (by omega) (.inl ⟨by omega,by omega⟩)
  rw [show sgv w[c]=-1 from if_neg v',dT rfl,kT,qal (by omega) (by omega),bB,bB,nd _ _ _ _ (by omega) (by omega) (by omega) (by omega) (by omega) (by omega),bB]
  rw [show ((4*c:Nat):Int)=4*(c:Int) by omega,show ((4*c+1:Nat):Int)=4*(c:Int)+1 by omega] at T
  exact T
