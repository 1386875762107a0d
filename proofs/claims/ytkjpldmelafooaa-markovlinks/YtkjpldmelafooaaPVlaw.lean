import Derived.Test.YtkjpldmelafooaaPSsmr
import Derived.Test.YtkjpldmelafooaaPVuniq
import Derived.Test.YtkjpldmelafooaaPXeq
set_option linter.all false
namespace Go.Proofs.Ytkjpldmelafooaa
open Ev
namespace Gl
open Gar Pg Ht Pv
def lo (s:Nat) (w:List Int):Nat:=(lpz (stC w w.length) s).length
section
variable {s : Nat} {w : List Int}
theorem lo_cnt:lo s w=cnt s (fun p=>(stC w w.length).lst p<0):=by
 have tol: ∀(p:Nat→Prop) [DecidablePred p] (l:List Nat),(l.filter fun h=>decide (p h)).length=(l.filter fun h=>@decide (p h) (Classical.propDecidable _)).length:=fun p _ l=>by
  congr 1
  exact List.filter_congr fun h _=>decide_eq_decide.mpr Iff.rfl
 exact tol (fun p=>(stC w w.length).lst p<0) _
theorem lo_sw {c:Nat} (hc:c<w.length):lo s (sw1 w c)=lo s w:=by
 rw [lo_cnt,lo_cnt]
 exact qby fun p _=>by
  have:=lst_sw' (w:=w) hc (p:=p)
  omega
theorem lo_le:lo s w≤s:=lpz_len _ _
variable (hw : ∀ x ∈ w, x ≠ 0 ∧ -(s : Int) < x ∧ x < s)
include hw
theorem ncp_le_s:ncp s w≤s:=by
 unfold ncp
 rw [←rep_cnt hw]
 have h1:=cnt_split s (fun _=>True) (fun p=>(stC w w.length).lst p<0)
 rw [cnt_all (fun _ _=>trivial)] at h1
 have h2:cnt s (fun h=>((stC w w.length).lst h<0)∧True)=cnt s (fun p=>(stC w w.length).lst p<0):=qby fun _ _=>and_iff_left trivial
 have h3:cnt s (fun p=>0≤(stC w w.length).lst p∧Pg.Rep (adjI (4*w.length) (nx (clm s w))) (fo s w p))≤cnt s (fun h=>(¬(stC w w.length).lst h<0)∧True):=cnt_mono fun k _ h=>⟨by omega,trivial⟩
 omega
theorem ncp_pos (hs:1≤s) (hL:w.length≤64):1≤ncp s w:=by
 by_cases h0:w.length=0
 ·
  unfold ncp
  have e:w=[]:=List.length_eq_zero_iff.1 h0
  subst e
  have:cnt s (fun p=>(stC ([]:List Int) ([]:List Int).length).lst p<0)=s:=cnt_all fun k _=>by unfold stC; show (-1:Int)<0; decide
  omega
 ·
  have hw0:0<w.length:=by omega
  obtain ⟨u1,u2⟩:=udl_out hw0
  have D:=clo_dv hw hL (lo:=0) (by omega) (by omega)
  have hln:(w.map sgv).length=w.length:=List.length_map ..
  obtain ⟨r1,r2,r3⟩:=qfx (f:=nx (clm s w)) u1
  have or:Outg (w.map sgv) (rpx (4*w.length) (nx (clm s w)) (4*0+2)):=by
   have:=outg_cn D (a:=rpx (4*w.length) (nx (clm s w)) (4*0+2)) (b:=4*0+2) (by rw [hln]; exact r2)
   exact this.2 u2
  have h1:=qeg (N:=4*w.length) (p:=fun k=>k≠rpx (4*w.length) (nx (clm s w)) (4*0+2)∧(Outg (w.map sgv) k∧Pg.Rep (adjI (4*w.length) (nx (clm s w))) k)) r1 (fun q=>q.1 rfl)
  have h2:cnt (4*w.length) (fun h=>h=rpx (4*w.length) (nx (clm s w)) (4*0+2)∨(h≠rpx (4*w.length) (nx (clm s w)) (4*0+2)∧(Outg (w.map sgv) h∧Pg.Rep (adjI (4*w.length) (nx (clm s w))) h)))≤cnt (4*w.length) (fun h=>Outg (w.map sgv) h∧Pg.Rep (adjI (4*w.length) (nx (clm s w))) h):=cnt_mono fun k _ h=>by
   rcases h with e | e
   · rw [e]; exact ⟨or,r3⟩
   · exact e.2
  unfold ncp
  omega
theorem comp_eq (hL:w.length≤64) (hs:s≤30) (m:Nat) (hm:500<m):F.qds m (w.map sgv) (clM s w) ((lo s w:Nat):Int)=some ((ncp s w:Nat):Int):=by
 have hlo:=lo_le (s:=s) (w:=w)
 have D:=clo_dv hw hL (lo:=((lo s w:Nat):Int)) (by omega) (by omega)
 have hln:(w.map sgv).length=w.length:=List.length_map ..
 have h1:=cnt_le (4*w.length) (fun h=>Outg (w.map sgv) h∧Pg.Rep (adjI (4*w.length) (nx (clm s w))) h)
 have hsl:(strs D.mt (w.map sgv) (4*(w.map sgv).length)).length=cnt (4*w.length) (fun h=>Outg (w.map sgv) h∧Pg.Rep (adjI (4*w.length) (nx (clm s w))) h):=by
  rw [strs_len,hln]
 unfold F.qds
 rw [qht D m (by omega),bB,Bool.not_true,kF,strands_eq D m hm,bB,qal (by omega) (by omega),bB]
 congr 1
 unfold ncp
 rw [hsl,←lo_cnt]
 omega
omit hw in
theorem cut_at {c:Nat} (hc:c<w.length):w=w.take c++w.getD c 0::w.drop (c+1)∧sw1 w c=w.take c++(-(w.getD c 0))::w.drop (c+1)∧er w c=w.take c++w.drop (c+1):=by
 have e:w=w.take c++w.getD c 0::w.drop (c+1):=by
  rw [qbr hc,List.getElem_cons_drop hc,List.take_append_drop]
 refine ⟨e,?_,List.eraseIdx_eq_take_drop_succ ..⟩
 unfold sw1
 rw [List.set_eq_take_append_cons_drop,if_pos hc]
theorem skein_at (K:Qn) {c:Nat} (hc:c<w.length):Xt K s w=if 0<w.getD c 0 then K.r ^ (K.m+1)*K.r ^ (K.m+1)*Xt K s (sw1 w c)+K.r ^ (K.m+1)*(K.q-K.r)*Xt K s (er w c) else K.q ^ (K.m+1)*K.q ^ (K.m+1)*Xt K s (sw1 w c)-K.q ^ (K.m+1)*(K.q-K.r)*Xt K s (er w c):=by
 obtain ⟨e1,e2,e3⟩:=cut_at hc
 obtain ⟨v0,v1,v2⟩:=qck hw hc
 have h1:=rq_pow (K:=K) (K.m+1)
 have sk:=Xt_skein (K:=K) (s:=s) v1 (w.take c) (w.drop (c+1))
 by_cases q:0<w.getD c 0
 ·
  have e:(((w.getD c 0).natAbs:Nat):Int)=w.getD c 0:=by omega
  rw [e,←e1,←e2,←e3] at sk
  rw [if_pos q]; exact sk
 ·
  have e:(((w.getD c 0).natAbs:Nat):Int)=-(w.getD c 0):=by omega
  rw [e,Int.neg_neg,←e1,←e2,←e3] at sk
  rw [if_neg q,sk]
  generalize K.r ^ (K.m+1)=a at*
  generalize K.q ^ (K.m+1)=b at*
  generalize K.q-K.r=z at*
  grind
end
/-! Numbers. -/
def Kok (K:Qn):Prop:=K.q-K.r≠0∧del K≠0
theorem kq_ok (n m:Nat):Kok (kq n m):=by
 have hz:(kq n m).q-(kq n m).r≠0:=kz_ne n
 refine ⟨hz,fun h=>?_⟩
 have h1:=del_eq (kq n m)
 have h2:=rq_pow (K:=kq n m) ((kq n m).m+1)
 rw [h] at h1
 have h3:(kq n m).q ^ (m+1)*(kq n m).q ^ (m+1)=1:=by
  have h1:((kq n m).q-(kq n m).r)*0=(kq n m).q ^ (m+1)-(kq n m).r ^ (m+1):=h1
  have h2:(kq n m).r ^ (m+1)*(kq n m).q ^ (m+1)=1:=h2
  generalize (kq n m).q ^ (m+1)=b at*
  generalize (kq n m).r ^ (m+1)=a at*
  grind
 have h4:((n+2:Nat):Rat) ^ (m+1)*((n+2:Nat):Rat) ^ (m+1)=1:=h3
 rw [←Rat.natCast_pow] at h4
 have:(((n+2) ^ (m+1)*(n+2) ^ (m+1):Nat):Rat)=((1:Nat):Rat):=by rw [Rat.natCast_mul]; exact h4
 have:=nat_inj this
 have h5:2≤(n+2) ^ (m+1):=by
  have:0<(n+2) ^ m:=Nat.pow_pos (by omega)
  rw [Nat.pow_succ]
  exact Nat.le_trans (show 2≤1*(n+2) by omega) (Nat.mul_le_mul_right _ this)
 have:=Nat.mul_le_mul h5 h5
 omega
theorem mo_eqs (K:Qn) (hz:K.q-K.r≠0):mo (K.r ^ (K.m+1)) (K.q-K.r) 2 0=K.r ^ (K.m+1)*K.r ^ (K.m+1)∧mo (K.r ^ (K.m+1)) (K.q-K.r) 1 1=K.r ^ (K.m+1)*(K.q-K.r)∧
  mo (K.r ^ (K.m+1)) (K.q-K.r) (-2) 0=K.q ^ (K.m+1)*K.q ^ (K.m+1)∧mo (K.r ^ (K.m+1)) (K.q-K.r) (-1) 1=K.q ^ (K.m+1)*(K.q-K.r)∧dz (K.r ^ (K.m+1)) (K.q-K.r)=del K:=by
 have h1:=rq_pow (K:=K) (K.m+1)
 have h2:=del_eq K
 have ha:=rp_ne K (K.m+1)
 unfold dz mo
 generalize K.r ^ (K.m+1)=a at*
 generalize K.q ^ (K.m+1)=b at*
 generalize K.q-K.r=z at*
 have one: ∀x:Rat,x ^ (1:Int)=x:=fun x=>by
  have:=Rat.zpow_natCast x 1
  rw [Rat.pow_succ,Rat.pow_zero] at this
  rw [show (1:Int)=((1:Nat):Int) by rfl,this]; grind
 have two: ∀x:Rat,x≠0→x ^ (2:Int)=x*x:=fun x hx=>by
  rw [show (2:Int)=1+1 by rfl,Rat.zpow_add hx,one]
 have m1: ∀x:Rat,x ^ (-1:Int)=x⁻¹ :=fun x=>by rw [Rat.zpow_neg,one]
 have m2: ∀x:Rat,x≠0→x ^ (-2:Int)=x⁻¹ *x⁻¹ :=fun x hx=>by
  rw [show (-2:Int)=-1+ -1 by rfl,Rat.zpow_add hx,m1]
 have hb:a⁻¹ =b:=by
  have:=Rat.mul_inv_cancel a ha
  generalize a⁻¹ =t at*
  grind
 have hzi:=Rat.mul_inv_cancel z hz
 rw [two a ha,m1,m1,m2 a ha,Rat.zpow_zero,one,one,hb]
 generalize z⁻¹ =t at*
 refine ⟨by grind,rfl,by grind,rfl,?_⟩
 grind
open Gar Pg Ht Pv
def fac:Nat→Nat
 | 0=>1
 | n+1=>(n+1)*fac n
theorem fac_pos: ∀n,1≤fac n
 | 0=>Nat.le_refl _
 | n+1=>Nat.mul_le_mul (show 1≤n+1 by omega) (fac_pos n)
theorem fac_mono: ∀{m n:Nat},m≤n→fac m≤fac n:=fun {m n} h=>by
 induction h with
 | refl=>exact Nat.le_refl _
 | step _ ih=>exact Nat.le_trans ih (Nat.le_mul_of_pos_left _ (Nat.succ_pos _))
abbrev Me:=List (Int×(Bool×List Tm))
def MOk (M:Me):Prop:= ∀(c:Nat) (v:Bool×List Tm),1≤c→gget M (c:Int)=some v→v.1=false∧Pol (2 ^ (c-1)) (1+2*(c-1)) (fun a z=>dz a z ^ (c-1)) v.2
noncomputable def rnk (s:Nat) (w:List Int):Nat:=w.length*(w.length+1)+bad s w
theorem gget_put {κ ν:Type} [DecidableEq κ] (m:List (κ×ν)) (k:κ) (v:ν) (k':κ):gget (gput m k v) k'=if k'=k then some v else gget m k':=Go.Proofs.Ytkjpldmelafooaa.gget_put m k v k'
theorem MOk.put {M:Me} (h:MOk M) {c:Nat} {L:List Tm} (hL:Pol (2 ^ (c-1)) (1+2*(c-1)) (fun a z=>dz a z ^ (c-1)) L):MOk (gput M (c:Int) (false,L)):=fun c' v h1 h2=>by
 rw [gget_put] at h2
 by_cases e:c'=c
 ·
  subst e
  rw [if_pos rfl] at h2
  cases h2
  exact ⟨rfl,hL⟩
 ·
  rw [if_neg (by omega)] at h2
  exact h c' v h1 h2
def Val (s:Nat) (w:List Int) (V:Rat→Rat→Rat):Prop:= ∀K:Qn,Kok K→V (K.r ^ (K.m+1)) (K.q-K.r)*del K=Xt K s w
section
variable {s : Nat} {w : List Int}
theorem bad_le:bad s w≤w.length:=cnt_le _ _
theorem resolve_eq (hw: ∀x∈w,x≠0∧-(s:Int)<x∧x<s) (hL:w.length≤64) (hs:s≤30) (m:Nat) (hm:500<m):
  (F.qew m (w.map sgv) (clM s w) ((lo s w:Nat):Int)=some ([],[],0,[],[],0,-1,12)∧bad s w=0)∨
  ∃c:Nat,c<w.length∧¬Gd1 s w c∧F.qew m (w.map sgv) (clM s w) ((lo s w:Nat):Int)=some ((sw1 w c).map sgv,clM s (sw1 w c),((lo s (sw1 w c):Nat):Int),(er w c).map sgv,clM s (er w c),((lo s (er w c):Nat):Int),(c:Int),0):=by
 have hlo:=lo_le (s:=s) (w:=w)
 rcases des_run hw hL (lo:=((lo s w:Nat):Int)) (by omega) (by omega) m hm with ⟨h1,h2⟩ | ⟨c,h1,h2,h3⟩
 ·
  refine .inl ⟨?_,h2⟩
  unfold F.qew
  rw [h1,bB]
  dsimp only
  rw [kT]
 ·
  refine .inr ⟨c,h1,h2,?_⟩
  have sm:F.qgx m (w.map sgv) (clM s w) ((lo s w:Nat):Int) (c:Int)=some ((er w c).map sgv,clM s (er w c),((lo s (er w c):Nat):Int),0):=smooth_eq hw hL h1 m hm hs
  have sw:F.qgz m (w.map sgv) (clM s w) ((lo s w:Nat):Int) (c:Int)=some ((sw1 w c).map sgv,clM s (sw1 w c),((lo s w:Nat):Int),0):=switch_eq hw hL h1 m hm (by omega) (by omega)
  unfold F.qew
  rw [h3,bB]
  dsimp only
  rw [kF,dF (by omega),kF,sm,bB]
  dsimp only
  rw [dT rfl,Bool.not_true,kF,sw,bB]
  dsimp only
  rw [dT rfl,Bool.not_true,kF,lo_sw h1]
theorem res_leaf (hw: ∀x∈w,x≠0∧-(s:Int)<x∧x<s) (hs1:1≤s) (hs:s≤5) (hL:w.length≤11) (hb:bad s w=0) {M:Me} (hM:MOk M) (n:Nat) (hn:8000≤n)
  (hr:F.qew n (w.map sgv) (clM s w) ((lo s w:Nat):Int)=some ([],[],0,[],[],0,-1,12)):
  ∃L M' V,F.qdi (n+1) (w.map sgv) (clM s w) ((lo s w:Nat):Int) true M=some (false,L,M',true)∧MOk M'∧Pol 16 11 V L∧Val s w V:=by
 have hp:=ncp_pos hw hs1 (by omega)
 have hle:=ncp_le_s hw
 have val:Val s w (fun a z=>dz a z ^ (ncp s w-1)):=fun K hK=>by
  rw [Xt_desc hw hK.2 hs1 (fun c hc=>bad_zero hb hc)]
  show dz _ _ ^ (ncp s w-1)*del K=_
  rw [(mo_eqs K hK.1).2.2.2.2,←Rat.pow_succ]
  congr 1
  omega
 have big: ∀L:List Tm,Pol (2 ^ (ncp s w-1)) (1+2*(ncp s w-1)) (fun a z=>dz a z ^ (ncp s w-1)) L→Pol 16 11 (fun a z=>dz a z ^ (ncp s w-1)) L:=fun L h=>by
  refine h.conv ?_ (by omega) fun _ _ _ _=>rfl
  have:2 ^ (ncp s w-1)≤2 ^ 4:=Nat.pow_le_pow_right (by decide) (by omega)
  exact this
 rw [F.qdi]
 rw [Bool.not_true,kF,hr,bB]
 dsimp only
 rw [dF (by decide),kF,dT rfl,kT,comp_eq hw (by omega) (by omega) n (by omega),bB,bB]
 cases hg:gget M ((ncp s w:Nat):Int) with
 | none=>
  obtain ⟨L,c1,c2⟩:=circles_eq n (by omega) (ncp s w-1) (by omega)
  rw [show ncp s w-1+1=ncp s w by omega] at c1
  refine ⟨L,gput M ((ncp s w:Nat):Int) (false,L),_,?_,hM.put c2,big L c2,val⟩
  rw [Option.isSome_none,Bool.not_false,kT,c1,bB]
  rfl
 | some v=>
  obtain ⟨v1,v2⟩:=hM _ v hp hg
  refine ⟨v.2,M,_,?_,hM,big _ v2,val⟩
  rw [Option.isSome_some,Bool.not_true,kF]
  show (F.qdd n v.1 v.2).bind (fun y216=>some (v.1,v.2,M,!y216))=_
  unfold F.qdd
  rw [bB,v1]
  rfl
end
theorem er_len' {w:List Int} {c:Nat} (hc:c<w.length):(er w c).length+1=w.length:=by rw [er_len hc]; omega
theorem res_all {s:Nat} (hs1:1≤s) (hs:s≤5): ∀(r n:Nat) (w:List Int) (M:Me),(∀x∈w,x≠0∧-(s:Int)<x∧x<s)→w.length≤11→rnk s w≤r→8000000000+r≤n→MOk M→
  ∃L M' V,F.qdi (n+1) (w.map sgv) (clM s w) ((lo s w:Nat):Int) true M=some (false,L,M',true)∧MOk M'∧Pol (16*(bad s w+1)*fac w.length) (11+2*rnk s w) V L∧Val s w V:=by
 intro r
 induction r with
 | zero=>
  intro n w M hw hL hr hn hM
  unfold rnk at hr
  have hb:bad s w=0:=by omega
  rcases resolve_eq hw (by omega) (by omega) n (by omega) with ⟨h1,h2⟩ | ⟨c,h1,h2,_⟩
  ·
   obtain ⟨L,M',V,a1,a2,a3,a4⟩:=res_leaf hw hs1 hs hL h2 hM n (by omega) h1
   refine ⟨L,M',V,a1,a2,a3.conv ?_ (by omega) fun _ _ _ _=>rfl,a4⟩
   have:=fac_pos w.length
   rw [hb]
   omega
  · exact absurd (bad_zero hb h1) h2
 | succ r ih=>
  intro n w M hw hL hr hn hM
  have hfp:=fac_pos w.length
  rcases resolve_eq hw (by omega) (by omega) n (by omega) with ⟨h1,h2⟩ | ⟨c,h1,h2,h3⟩
  ·
   obtain ⟨L,M',V,a1,a2,a3,a4⟩:=res_leaf hw hs1 hs hL h2 hM n (by omega) h1
   refine ⟨L,M',V,a1,a2,a3.conv ?_ (by omega) fun _ _ _ _=>rfl,a4⟩
   rw [h2]
   omega
  ·
   have hbs:=bad_sw hw h1 (by omega) h2
   have hbl:=bad_le (s:=s) (w:=w)
   have hbe:=bad_le (s:=s) (w:=er w c)
   have hel:=er_len' h1
   have hsl:(sw1 w c).length=w.length:=qcf c
   have r1:rnk s (sw1 w c)+1=rnk s w:=by unfold rnk; rw [hsl]; omega
   have r2:rnk s (er w c)+1≤rnk s w:=by
    unfold rnk
    rw [←hel]
    generalize (er w c).length=l at*
    have:(l+1)*(l+1+1)=l*(l+1)+(l+1)+(l+1):=by
     rw [Nat.succ_mul,Nat.mul_succ]
     omega
    omega
   obtain ⟨n',rfl⟩: ∃n',n=n'+1:=⟨n-1,by omega⟩
   obtain ⟨L0,M1,V0,a1,a2,a3,a4⟩:=ih n' (er w c) M (er_rg hw) (by omega) (by omega) (by omega) hM
   obtain ⟨L1,M2,V1,b1,b2,b3,b4⟩:=ih n' (sw1 w c) M1 (sw1_rg hw h1) (by omega) (by omega) (by omega) a2
   -- sizes
   have hf12:fac w.length≤fac 11:=fac_mono hL
   have f11:fac 11=39916800:=by decide
   have szT:16*(bad s w+1)*fac w.length≤16*12*fac 11:=Nat.mul_le_mul (Nat.mul_le_mul_left _ (by omega)) hf12
   have sz0:16*(bad s (er w c)+1)*fac (er w c).length≤16*fac w.length:=by
    rw [←hel]
    show _≤16*(((er w c).length+1)*fac (er w c).length)
    rw [←Nat.mul_assoc]
    exact Nat.mul_le_mul_right _ (Nat.mul_le_mul_left _ (by omega))
   have sz1:16*(bad s (sw1 w c)+1)*fac (sw1 w c).length=16*bad s w*fac w.length:=by rw [hsl,hbs]
   have szS:16*bad s w*fac w.length+16*fac w.length=16*(bad s w+1)*fac w.length:=by
    rw [←Nat.add_mul]
    congr 1
   have hlen2:w.length*(w.length+1)≤11*12:=Nat.mul_le_mul hL (by omega)
   have hrk:rnk s w≤143:=by unfold rnk; omega
   have P0:Pol (16*fac w.length) (11+2*(rnk s w-1)) V0 L0:=a3.conv sz0 (by omega) fun _ _ _ _=>rfl
   have P1:Pol (16*bad s w*fac w.length) (11+2*(rnk s w-1)) V1 L1:=b3.conv (by rw [sz1]; exact Nat.le_refl _) (by omega) fun _ _ _ _=>rfl
   rw [f11] at szT
   have hfin: ∀(x:Int),x=1∨x=-1→∃y108 L,F.qdg (n'+1) false L1 (2*x) 0=some (false,y108)∧(if 0<x then F.qfc (n'+1) false y108 false (L0.map (sh x 1)) else F.qdu (n'+1) false y108 false (L0.map (sh x 1)))=some (false,L)∧
     Pol (16*(bad s w+1)*fac w.length) (11+2*rnk s w) (fun a z=>if 0<x then mo a z (2*x) 0*V1 a z+mo a z x 1*V0 a z else mo a z (2*x) 0*V1 a z-mo a z x 1*V0 a z) L:=fun x hx=>by
    have Q1:=P1.sh (x:=2*x) (y:=0) (by omega) (by omega)
    have Q0:=P0.sh (x:=x) (y:=1) (by omega) (by omega)
    refine ⟨L1.map (sh (2*x) 0),?_⟩
    have hsh:=shift_eq P1 (x:=2*x) (y:=0) (by omega) (by omega) (n'+1) (by omega) (by omega) (by omega)
    by_cases q:0<x
    ·
     obtain ⟨L,d1,d2⟩:=add_eq Q1 Q0 (n'+1) (by omega) (by omega) (by omega)
     refine ⟨L,hsh,by rw [if_pos q]; exact d1,d2.conv (by omega) (by omega) fun a z _ _=>by rw [if_pos q]⟩
    ·
     obtain ⟨L,d1,d2⟩:=sub_eq Q1 Q0 (n'+1) (by omega) (by omega) (by omega)
     refine ⟨L,hsh,by rw [if_neg q]; exact d1,d2.conv (by omega) (by omega) fun a z _ _=>by rw [if_neg q]⟩
   have hx:sgv (w.getD c 0)=1∨sgv (w.getD c 0)=-1:=sgv_pm _
   have hgx:(w.map sgv)[c]? =some (sgv (w.getD c 0)):=by rw [List.getElem?_map,gE h1,qbr h1]; rfl
   obtain ⟨y108,L,e1,e2,e3⟩:=hfin _ hx
   have hsh0:=shift_eq P0 (x:=sgv (w.getD c 0)) (y:=1) (by omega) (by omega) (n'+1) (by omega) (by omega) (by omega)
   refine ⟨L,M2,_,?_,b2,e3,fun K hK=>?_⟩
   ·
    rw [F.qdi]
    rw [Bool.not_true,kF,h3,bB]
    dsimp only
    rw [dT rfl,kT,qbl,hgx,bB,a1,bB]
    dsimp only
    rw [hsh0,bB,b1,bB,qal (by omega) (by omega),bB]
    dsimp only
    rw [e1,bB]
    dsimp only
    by_cases q:0<sgv (w.getD c 0)
    ·
     rw [if_pos q] at e2
     rw [dT q,kT,e2,bB,kT]
     rfl
    ·
     rw [if_neg q] at e2
     rw [dF q,kF,e2,bB,kT]
     rfl
   ·
    obtain ⟨m1,m2,m3,m4,_⟩:=mo_eqs K hK.1
    have k0:=a4 K hK
    have k1:=b4 K hK
    rw [skein_at hw K h1]
    show (if 0<sgv (w.getD c 0) then _ else _)*del K=_
    by_cases q:0<w.getD c 0
    ·
     have es:sgv (w.getD c 0)=1:=if_pos q
     rw [if_pos q,es,if_pos (show (0:Int)<1 by decide)]
     show (mo _ _ 2 0*_+mo _ _ 1 1*_)*_=_
     rw [m1,m2,←k0,←k1]
     grind
    ·
     have es:sgv (w.getD c 0)=-1:=if_neg q
     rw [if_neg q,es,if_neg (show¬(0:Int)< -1 by decide)]
     show (mo _ _ (-2) 0*_-mo _ _ (-1) 1*_)*_=_
     rw [m3,m4,←k0,←k1]
     grind
open Gar Pg Ht Pv
def Xs (s:Int) (w:List Int) (s':Int) (w':List Int):Prop:= ∀K:Qn,Xt K s.toNat w=Xt K s'.toNat w'
theorem ok_w {s:Int} {w:List Int} (h:Go.Proofs.Ytkjpldmelafooaa.okB s w=true):(∀v∈w,v≠0∧v.natAbs<s.toNat)∧(∀x∈w,x≠0∧-(s.toNat:Int)<x∧x<s.toNat)∧1≤s:=by
 obtain ⟨h1,h2,h3,h4⟩:=Go.Proofs.Ytkjpldmelafooaa.qcy.1 h
 exact ⟨fun v hv=>by have:=h4 v hv; omega,fun v hv=>by have:=h4 v hv; omega,h1⟩
theorem st_fwd {s:Int} {w:List Int} {k g a:Int} {s' k' g' a':Int} {w':List Int} (h:stepS s w k g a=(s',w',k',g',a',0)) (hk:(k=1∧a=0)∨k=2):Xs s w s' w'∧w'.length≤w.length+2∧s'≤s+1:=by
 have h0:(stepS s w k g a).2.2.2.2.2=0:=by rw [h]
 obtain ⟨hs,hc⟩:=step_cases h0
 obtain ⟨w1,w2,w3⟩:=ok_w hs
 rcases hc with (⟨rfl,hl,rfl⟩ | ⟨rfl,hl,rfl,hd⟩ | ⟨rfl,hg,rfl⟩ | ⟨rfl,rfl,rfl,hd⟩) | (⟨rfl,_⟩ | ⟨rfl,_⟩ | ⟨rfl,_⟩ | ⟨rfl,_⟩)
 ·
  rw [st1a hs hl] at h
  have h0:(fin s (g::(w++[-g])) 1 (-g) 1).2.2.2.2.2=0:=by rw [h]
  obtain ⟨q1,q2⟩:=qeu h0
  rw [qdn q1 q2] at h
  cases h
  refine ⟨fun K=>?_,by simp,by omega⟩
  unfold isL at hl
  have e:g::(w++[-g])=[g]++(w++[-g]):=rfl
  rw [e,Xt_rot (fun v hv=>by rw [List.mem_singleton.1 hv]; omega),List.append_assoc]
  have be:BE s.toNat (w++([-g]++[g])) w:=by
   by_cases q:0<g
   ·
    have:=BE.np (N:=s.toNat) w [] (i:=g.natAbs) (by omega) (by omega)
    rw [show ((g.natAbs:Nat):Int)=g by omega,List.append_nil] at this
    exact this
   ·
    have:=BE.pn (N:=s.toNat) w [] (i:=g.natAbs) (by omega) (by omega)
    rw [show ((g.natAbs:Nat):Int)=-g by omega,Int.neg_neg,List.append_nil] at this
    exact this
  exact (Xt_be be).symm
 · omega
 ·
  rw [st2 hs hg] at h
  have h0:(fin (s+1) (w++[g*s]) 3 0 0).2.2.2.2.2=0:=by rw [h]
  obtain ⟨q1,q2⟩:=qeu h0
  rw [qdn q1 q2] at h
  cases h
  refine ⟨fun K=>?_,by simp,by omega⟩
  rw [show (s+1).toNat=s.toNat+1 by omega]
  exact (Xt_edge (by omega) w1 (by rcases hg with rfl | rfl<;>omega)).symm
 all_goals omega
theorem st_all {s:Int} {w:List Int} {k g a:Int} {s' k' g' a':Int} {w':List Int} (h:stepS s w k g a=(s',w',k',g',a',0)):Xs s w s' w'∧Go.Proofs.Ytkjpldmelafooaa.okB s w=true∧Go.Proofs.Ytkjpldmelafooaa.okB s' w'=true∧w'.length≤w.length+2∧s'≤s+1:=by
 have h0:(stepS s w k g a).2.2.2.2.2=0:=by rw [h]
 obtain ⟨hs,hc⟩:=step_cases h0
 have hu:=step_und h0
 rw [h] at hu
 obtain ⟨hv,hb⟩:=hu
 have hb:stepS s' w' k' g' a'=(s,w,k,g,a,0):=hb
 suffices hh:Xs s w s' w'∧w'.length≤w.length+2∧s'≤s+1 from ⟨hh.1,hs,hv,hh.2⟩
 rcases hc with (⟨rfl,hl,rfl⟩ | ⟨rfl,hl,rfl,hd⟩ | ⟨rfl,hg,rfl⟩ | ⟨rfl,rfl,rfl,hd⟩) | hc
 · exact st_fwd h (.inl ⟨rfl,rfl⟩)
 ·
  have e:=h
  rw [st1b hs hl hd] at e
  have h0:(fin s ((w.drop 1).take (w.length-2)) 1 (-g) 0).2.2.2.2.2=0:=by rw [e]
  obtain ⟨q1,q2⟩:=qeu h0
  rw [qdn q1 q2] at e
  cases e
  have:=st_fwd hb (.inl ⟨rfl,rfl⟩)
  refine ⟨fun K=>(this.1 K).symm,?_,by omega⟩
  rw [List.length_take,List.length_drop]; omega
 · exact st_fwd h (.inr rfl)
 ·
  have e:=h
  rw [st3 hs hd] at e
  generalize (if (w.getD (w.length-1) 0)<0 then (-1:Int) else 1)=t at e
  have h0:(fin (s-1) (w.take (w.length-1)) 2 t 0).2.2.2.2.2=0:=by rw [e]
  obtain ⟨q1,q2⟩:=qeu h0
  rw [qdn q1 q2] at e
  cases e
  have:=st_fwd hb (.inr rfl)
  refine ⟨fun K=>(this.1 K).symm,?_,by omega⟩
  rw [List.length_take]; omega
 ·
  have hk:4≤k:=by
   rcases hc with ⟨rfl,_⟩ | ⟨rfl,_⟩ | ⟨rfl,_⟩ | ⟨rfl,_⟩<;>decide
  obtain ⟨e1,e2,e3⟩:=be_step h hk
  subst e1
  exact ⟨fun K=>Xt_be e2,e3,by omega⟩
/-! Components:the trace at q=1. -/
def K1:Qn:=⟨1,1,1,by rw [Rat.one_mul]⟩
theorem del1:del K1=2:=by
 show (1:Rat) ^ 1*((0+(1*1) ^ 0)+(1*1) ^ 1)=2
 rw [Rat.pow_succ,Rat.pow_zero,Rat.pow_succ,Rat.pow_zero]
 grind
theorem xt1 {s:Nat} (hs:1≤s): ∀(r:Nat) (w:List Int),(∀x∈w,x≠0∧-(s:Int)<x∧x<s)→w.length≤64→bad s w≤r→Xt K1 s w=2 ^ ncp s w:=by
 intro r
 induction r with
 | zero=>
  intro w hw hL hb
  have:=Xt_desc (K:=K1) hw (by rw [del1]; decide) hs (fun c hc=>bad_zero (by omega) hc)
  rw [this,del1]
 | succ r ih=>
  intro w hw hL hb
  by_cases h0:bad s w=0
  ·
   have:=Xt_desc (K:=K1) hw (by rw [del1]; decide) hs (fun c hc=>bad_zero h0 hc)
   rw [this,del1]
  ·
   have hex: ∃c,c<w.length∧¬Gd1 s w c:=by
    refine Classical.byContradiction fun q=>h0 ?_
    exact cnt_none fun c hc h=>q ⟨c,hc,h⟩
   obtain ⟨c,hc,hg⟩:=hex
   have hbs:=bad_sw hw hc hL hg
   have I:=ih (sw1 w c) (sw1_rg hw hc) (by rw [qcf]; exact hL) (by omega)
   rw [ncp_sw hw hc hL] at I
   rw [←I,skein_at hw K1 hc]
   have p1: ∀n:Nat,(1:Rat) ^ n=1:=fun n=>by
    induction n with
    | zero=>exact Rat.pow_zero _
    | succ n ih=>rw [Rat.pow_succ,ih]; exact Rat.mul_one 1
   have e1:K1.r ^ (K1.m+1)=1:=p1 _
   have e2:K1.q ^ (K1.m+1)=1:=p1 _
   have e3:K1.q-K1.r=0:=by show (1:Rat)-1=0; grind
   rw [e1,e2,e3]
   split<;>grind
theorem ncp_inv {s s':Nat} {w w':List Int} (hs:1≤s) (hs':1≤s') (hw: ∀x∈w,x≠0∧-(s:Int)<x∧x<s) (hw': ∀x∈w',x≠0∧-(s':Int)<x∧x<s') (hL:w.length≤64) (hL':w'.length≤64) (h:Xt K1 s w=Xt K1 s' w'):ncp s w=ncp s' w':=by
 rw [xt1 hs _ w hw hL (Nat.le_refl _),xt1 hs' _ w' hw' hL' (Nat.le_refl _)] at h
 have h:((2:Nat):Rat) ^ ncp s w=((2:Nat):Rat) ^ ncp s' w':=h
 rw [←Rat.natCast_pow,←Rat.natCast_pow] at h
 exact (Nat.pow_right_inj (by decide)).1 (nat_inj h)
theorem poly_run {s:Nat} {w:List Int} (hw: ∀x∈w,x≠0∧-(s:Int)<x∧x<s) (hs1:1≤s) (hs:s≤5) (hL:w.length≤11) (n:Nat) (hn:8000001000≤n):
  ∃L V,F.qhs n (w.map sgv) (clM s w) ((lo s w:Nat):Int)=some (false,L,0)∧Pol 8000000000 1000 V L∧Val s w V:=by
 have hlo:=lo_le (s:=s) (w:=w)
 have D:=clo_dv hw (by omega) (lo:=((lo s w:Nat):Int)) (by omega) (by omega)
 have hln:(w.map sgv).length=w.length:=List.length_map ..
 have hlen2:w.length*(w.length+1)≤11*12:=Nat.mul_le_mul hL (by omega)
 have hbl:=bad_le (s:=s) (w:=w)
 have hrk:rnk s w≤143:=by unfold rnk; omega
 obtain ⟨n',rfl⟩: ∃n',n=n'+1:=⟨n-1,by omega⟩
 obtain ⟨L,M',V,a1,a2,a3,a4⟩:=res_all hs1 hs (rnk s w) n' w [] hw hL (Nat.le_refl _) (by omega) (fun c v _ h=>by cases h)
 have hf12:fac w.length≤fac 11:=fac_mono hL
 have f11:fac 11=39916800:=by decide
 have szT:16*(bad s w+1)*fac w.length≤16*12*fac 11:=Nat.mul_le_mul (Nat.mul_le_mul_left _ (by omega)) hf12
 rw [f11] at szT
 refine ⟨L,V,?_,a3.conv (by omega) (by omega) fun _ _ _ _=>rfl,a4⟩
 have j0:F.qgp (n'+1) (w.map sgv) (clM s w) ((lo s w:Nat):Int)=some (false,L,0):=by
  unfold F.qgp
  rw [dF (by omega),kF,a1,bB]
  rfl
 unfold F.qhs
 rw [qht D (n'+1) (by omega),bB,Bool.not_true,kF]
 by_cases h0:w.length=0
 ·
  have e:lo s w=s:=by
   rw [lo_cnt]
   have e:w=[]:=List.length_eq_zero_iff.1 h0
   subst e
   exact cnt_all fun k _=>by unfold stC; show (-1:Int)<0; decide
  rw [dT (by omega),kT,dF (by omega),kF,j0]
 · rw [dF (by omega),kF,j0]
theorem poly_same {s s':Nat} {w w':List Int} {L L':List Tm} {V V':Rat→Rat→Rat} {B E B' E':Nat} (h1:Pol B E V L) (h2:Pol B' E' V' L') (v1:Val s w V) (v2:Val s' w' V') (h: ∀K:Qn,Xt K s w=Xt K s' w'):L=L':=
 uniq h1 h2 fun n m=>by
  have hK:=kq_ok n m
  have k1:=v1 _ hK
  have k2:=v2 _ hK
  rw [h,←k2] at k1
  have ha:(kq n 0).r ^ (m+1)≠0:=rp_ne _ _
  rw [h1.ev _ _ ha (kz_ne n),h2.ev _ _ ha (kz_ne n)]
  have k1:V ((kq n 0).r ^ (m+1)) ((kq n 0).q-(kq n 0).r)*del (kq n m)=V' ((kq n 0).r ^ (m+1)) ((kq n 0).q-(kq n 0).r)*del (kq n m):=k1
  have hd:=hK.2
  generalize V _ _=x at*
  generalize V' _ _=y at*
  generalize del (kq n m)=d at*
  grind
theorem equal_self {L:List Tm} (n:Nat) (hn:L.length<n) (hl:L.length≤1099511627776):F.qfe n false L false L=some true:=by
 have hlp:loopN n (F.qcw n L L) 0=some (.inl (L.length:Int)):=by
  refine qce (fun k:Nat=>(k:Int)) L.length (fun k hk=>?_) ?_ n hn
  ·
   unfold F.qcw
   dsimp only
   rw [dT (by omega),kT,qbl,gE hk,bB,bB,dT rfl,dT rfl,dT rfl,qal (by omega) (by omega)]
   rfl
  ·
   unfold F.qcw
   dsimp only
   rw [dF (by omega),kF]
 unfold F.qfe F.qfz
 rw [dT rfl,Bool.not_true,kF,hlp]
 rfl
theorem closure_at {s:Int} {w:List Int} (h:Go.Proofs.Ytkjpldmelafooaa.okB s w=true) (hL:w.length≤64) (m:Nat) (hm:1000<m):F.qgi m s w=some (w.map sgv,clM s.toNat w,((lo s.toNat w:Nat):Int),0):=by
 obtain ⟨h1,h2,h3,h4⟩:=Go.Proofs.Ytkjpldmelafooaa.qcy.1 h
 have:=closure_run (s:=s.toNat) (w:=w) (Gar.qcy.2 (by rw [show ((s.toNat:Nat):Int)=s by omega]; exact ⟨h1,h2,h3,h4⟩)) (by omega) hL m hm
 rw [show ((s.toNat:Nat):Int)=s by omega] at this
 exact this
end Gl
open Gl in
theorem law36_MarkovLinks_true (z0:Int) (x1:List Int) (x2:Int×(Int×Int)) (o0:Ev.Sh.ok (.int .i64) z0) (o1:Ev.Sh.ok (.sl (.int .i64)) x1) (o2:Ev.Sh.ok (.pr (.int .i64) (.pr (.int .i64) (.int .i64))) x2): ∃n,F.law36_MarkovLinks n z0 x1 x2.1 x2.2.1 x2.2.2=some true:=by
 refine ⟨9000000000,?_⟩
 generalize hN:(9000000000:Nat)=N
 have hg: -9223372036854775808≤x2.2.1∧x2.2.1≤9223372036854775807:=by
  have h:IntKind.i64.wrap x2.2.1=x2.2.1:=o2.2.1
  simp [IntKind.wrap,IntKind.signed,IntKind.bits] at h
  omega
 obtain ⟨k,g,a⟩:=x2
 unfold F.law36_MarkovLinks
 rw [awake36 N (by omega),bB,Bool.not_true,kF]
 by_cases hl:5<(x1.length:Int)
 · rw [dT hl]; rfl
 rw [dF hl,kF]
 by_cases h4:4<z0
 · rw [dT h4]; rfl
 rw [dF h4,kF,apply_eq N (by omega) hg,bB]
 dsimp only
 by_cases h0:(stepS z0 x1 k g a).2.2.2.2.2=0
 ·
  obtain ⟨s',w',k',g',a',hr⟩: ∃s' w' k' g' a',stepS z0 x1 k g a=(s',w',k',g',a',0):=⟨_,_,_,_,_,by rw [←h0]⟩
  obtain ⟨X,b1,b2,b3,b4⟩:=st_all hr
  obtain ⟨_,u2,u3⟩:=ok_w b1
  obtain ⟨_,v2,v3⟩:=ok_w b2
  obtain ⟨L,V,p1,p2,p3⟩:=poly_run u2 (by omega) (by omega) (by omega) N (by omega)
  obtain ⟨L',V',q1,q2,q3⟩:=poly_run v2 (by omega) (by omega) (by omega) N (by omega)
  have e:=poly_same p2 q2 p3 q3 X
  have en:=ncp_inv (by omega) (by omega) u2 v2 (by omega) (by omega) (X K1)
  have hlen:=p2.len
  rw [hr]
  dsimp only
  rw [dT rfl,Bool.not_true,kF,closure_at b1 (by omega) N (by omega),bB,closure_at b2 (by omega) N (by omega),bB]
  dsimp only
  rw [dT rfl,Bool.not_true,kF,kF,comp_eq u2 (by omega) (by omega) N (by omega),bB,comp_eq v2 (by omega) (by omega) N (by omega),bB,en,dT rfl,Bool.not_true,kF,p1,bB,q1,bB]
  dsimp only
  rw [dT rfl,kT,kT,←e,equal_self N (by omega) (by omega),bB]
 · rw [dF h0]; rfl
