import Derived.Test.YteajmbanlohncaaPQgenus
import Derived.Test.YteajmbanlohncaaBulk
set_option linter.unusedVariables false
set_option linter.unusedSimpArgs false
namespace Go.Proofs.Yteajmbanlohncaa
open Ev
namespace Pg
abbrev Dg:=List Int×List Int×Int×Int
open Classical in
noncomputable def gdS (cs:List (List Vis)) (sg:List Int) (lo:Int):Dg:=
 if GV cs sg lo then if Int.tdiv (gen2 sg.length (muS sg cs)) 2=0 then (sg,mtS sg cs,lo,0) else ([],[],0,7) else ([],[],0,1)
open Classical in
theorem gd_eq (cs:List (List Vis)) (sg:List Int) (lo:Int) (n:Nat) (hb:cs.flatten.length≤100000000) (hc:cs.length≤100000000) (hn:500<n) (hn1:cs.length<n) (hn2:cs.flatten.length<n):
  F.gauss_Diagram n cs sg lo=some (gdS cs sg lo):=by
 unfold F.gauss_Diagram gdS
 rw [gv_eq cs sg lo n hb hc (by omega) hn1 hn2,bB]
 by_cases hg:GV cs sg lo
 case neg=>rw [dF hg,if_neg hg]; rfl
 have h64:sg.length≤64:=hg.1
 rw [dT hg,if_pos hg,Bool.not_true,kF,mates_eq hg.2.2.2.2.2.1 h64 lo n hn2 hn1 (by omega) (by omega),bB,genus_eq hg.mt (by omega) n hn,bB]
 by_cases h0:Int.tdiv (gen2 sg.length (muS sg cs)) 2=0
 ·
  rw [dT h0,if_pos h0,Bool.not_true,kF]
  unfold F.slices_Clone_Lint_int
  rw [lim_ok (by simp; omega),bB,bB,List.nil_append]
 · rw [dF h0,if_neg h0]; rfl
def countS (es:List Ed):Nat:=((List.range es.length).map (fun i=>(srt es i).length)).sum
open Classical in
noncomputable def projS (l:List (List Pt)):Dg:=
 if Vd l then
  if GenE (edS 0 l) then
   if 128<countS (edS 0 l) then ([],[],0,5)
   else gdS (codeS (edS 0 l) (srt (edS 0 l)) l).1 (codeS (edS 0 l) (srt (edS 0 l)) l).2.1 (codeS (edS 0 l) (srt (edS 0 l)) l).2.2
  else ([],[],0,15)
 else ([],[],0,1)
theorem srt_len {es:List Ed} (hF:FitE es) {i:Nat} (hi:i<es.length) (hN:es.length≤1000000000):(srt es i).length≤es.length:=by
 have h:=(sortL_perm (sort_eq hF hi hN 0).2).1.length_eq
 have h2:=ps_le es i es.length
 unfold srt
 omega
theorem srt_mem {es:List Ed} (hF:FitE es) {i:Nat} (hi:i<es.length) (hN:es.length≤1000000000) {x:Int×Bool} (h:x∈srt es i):x∈ps es i es.length:=(sortL_perm (sort_eq hF hi hN 0).2).1.mem_iff.1 h
theorem srt_ok {es:List Ed} (hF:FitE es) {i:Nat} (hi:i<es.length) (hN:es.length≤1000000000):RowOk es.length (srt es i):=by
 refine ⟨srt_len hF hi hN,fun x hx=>?_⟩
 obtain ⟨k,hk,e,_⟩:=ps_mem (srt_mem hF hi hN hx)
 omega
theorem crow_len {es:List Ed} {i:Nat}: ∀(row:List (Int×Bool)) (st:CS),(crow es i st row).1.length=st.1.length+row.length
 | [],st=>rfl
 | x::r,st=>by
  have:=crow_len (es:=es) (i:=i) r (cstep es i st x)
  have e:(cstep es i st x).1.length=st.1.length+1:=by
   unfold cstep
   split<;>simp
  rw [e] at this
  rw [List.length_cons]
  show (crow es i (cstep es i st x) r).1.length=_
  omega
theorem cpoly_len {es:List Ed} {P:Nat→List (Int×Bool)} {s B:Nat}: ∀(m:Nat) (st:CS),(∀j,j<m→(P (s+j)).length≤B)→(cpoly es P s m st).1.length≤st.1.length+m*B
 | 0,st,_=>by simp [cpoly]
 | m+1,st,h=>by
  have ih:=cpoly_len (es:=es) m st fun j hj=>h j (by omega)
  have hm:=h m (by omega)
  rw [cpoly_succ,crow_len,Nat.succ_mul]
  omega
theorem code_small {es:List Ed} {P:Nat→List (Int×Bool)} {B:Nat} (hP: ∀j,j<es.length→(P j).length≤B): ∀(l:List (List Pt)),sumlen l≤es.length→
  (cofold es P l).2.1.flatten.length≤sumlen l*B∧(cofold es P l).2.1.length≤l.length:=by
 intro l hl
 have key: ∀k,k≤l.length→(cofold es P (l.take k)).2.1.flatten.length≤sumlen (l.take k)*B∧(cofold es P (l.take k)).2.1.length≤k:=by
  intro k
  induction k with
  | zero=>intro _; simp [cofold]
  | succ k ih=>
   intro hk
   obtain ⟨i1,i2⟩:=ih (by omega)
   have hg:l[k]? =some l[k]:=gE (by omega)
   have hsu:=sumlen_take_succ hg
   have hle:=sumlen_take_le l (k+1)
   have e:cofold es P (l.take (k+1))=costep es P (cofold es P (l.take k)) l[k]:=by
    rw [List.take_add_one,hg]
    exact cofold_snoc es P (l.take k) l[k]
   have hst:=cofold_start es P (l.take k)
   rw [e,hsu,Nat.add_mul]
   generalize cofold es P (l.take k)=a at*
   have hp:=cpoly_len (es:=es) (P:=P) (s:=a.1) (B:=B) l[k].length ([],a.2.2.1,a.2.2.2.2) (fun j hj=>hP _ (by omega))
   unfold costep
   dsimp only at hp⊢
   split
   ·
    rw [List.flatten_append,List.length_append,List.length_append]
    simp only [List.flatten_cons,List.flatten_nil,List.append_nil,List.length_singleton,List.length_nil] at hp⊢
    omega
   · omega
 have:=key l.length (Nat.le_refl _)
 rwa [List.take_length] at this
open Classical in
theorem proj_eq (l:List (List Pt)) (n:Nat) (hb:sumlen l≤100000000) (hl2:l.length≤100000000) (hn:100000000<n):F.polygon_Project n l=some (projS l):=by
 unfold F.polygon_Project projS
 rw [valid_eq l n (by omega) (by omega) (by omega) (by omega) (by omega),bB]
 by_cases hv:Vd l
 case neg=>rw [dF hv,if_neg hv]; rfl
 have hs:=hv.2
 have hF:FitE (edS 0 l):=fit_edS 0 fun p hp=>(hv.1 p hp).2
 have hlen:=edS_len 0 l
 have hll:l.length≤100:=by
  have: ∀(l:List (List Pt)),(∀p∈l,3≤p.length)→l.length≤sumlen l:=by
   intro l
   induction l with
   | nil=>intro _; simp
   | cons p r ih=>
    intro h
    have h1:=h p List.mem_cons_self
    have h2:=ih fun q hq=>h q (List.mem_cons_of_mem _ hq)
    unfold sumlen at*
    rw [List.map_cons,List.sum_cons,List.length_cons]
    omega
  have:=this l fun p hp=>(hv.1 p hp).1
  omega
 rw [dT hv,if_pos hv,Bool.not_true,kF,edges_eq l n (by omega) (by omega) (by omega) (by omega),bB,cross_list hF (by omega) n (by omega) (by omega),bB]
 by_cases hg:GenE (edS 0 l)
 case neg=>rw [if_neg hg,if_neg hg]; rfl
 rw [if_pos hg,if_pos hg]
 dsimp only
 rw [Bool.not_true,kF]
 generalize hes:edS 0 l=es at*
 have hcl:loopN n (F.polygon_Project_b0 n ((List.range es.length).map (srt es),true)) (0,0)=some ((countS es:Int),(es.length:Int)):=by
  have hpre: ∀k,k≤es.length→((List.range k).map (fun i=>(srt es i).length)).sum≤k*100:=by
   intro k
   induction k with
   | zero=>intro _; simp
   | succ k ih=>
    intro hk
    have:=ih (by omega)
    have h2:=srt_len hF (i:=k) (by omega) (by omega)
    rw [List.range_succ,List.map_append,List.sum_append,Nat.succ_mul]
    simp only [List.map_cons,List.map_nil,List.sum_cons,List.sum_nil]
    omega
  refine count_loop (fun k:Nat=>(((((List.range k).map (fun i=>(srt es i).length)).sum:Nat):Int),(k:Int))) es.length (fun k hk=>?_) ?_ n (by omega)
  ·
   have hp:=hpre (k+1) (by omega)
   have hsum:((List.range (k+1)).map (fun i=>(srt es i).length)).sum=((List.range k).map (fun i=>(srt es i).length)).sum+(srt es k).length:=by
    rw [List.range_succ,List.map_append,List.sum_append]; simp
   unfold F.polygon_Project_b0
   dsimp only
   rw [List.length_map,List.length_range,dT (by omega),kT,get_nat,List.getElem?_map,List.getElem?_range hk,Option.map_some,bB,chk_ok (by omega) (by omega),bB,chk_ok (by omega) (by omega),bB,hsum]
   rfl
  ·
   unfold F.polygon_Project_b0
   dsimp only
   rw [List.length_map,List.length_range,dF (by omega),kF]
   rfl
 rw [hcl,bB]
 dsimp only
 by_cases hc:128<countS es
 · rw [dT (by omega),if_pos hc]; rfl
 have hP: ∀j,j<es.length→((List.range es.length).map (srt es))[j]? =some (srt es j)∧RowOk es.length (srt es j):=fun j hj=>⟨by rw [List.getElem?_map,List.getElem?_range hj]; rfl,srt_ok hF hj (by omega)⟩
 rw [dF (by omega),if_neg hc,kF,code_eq hF (by omega) hP (by omega) (by omega) n (by omega) (by omega),bB]
 obtain ⟨b1,b2⟩:=code_small (B:=100) (P:=srt es) (fun j hj=>by have:=srt_len hF hj (by omega); omega) l (by omega)
 rw [gd_eq _ _ _ n (by unfold codeS; dsimp only; omega) (by unfold codeS; dsimp only; omega) (by omega) (by unfold codeS; dsimp only; omega) (by unfold codeS; dsimp only; omega),bB]
abbrev ShP:Ev.Sh:=.pr (.int .i64) (.pr (.int .i64) (.int .i64))
theorem sumlen_bulk (l:List (List Pt)):sumlen l≤Ev.Sh.bulk (.sl (.sl ShP)) l:=by
 have: ∀l:List (List Pt),sumlen l≤(l.map (Ev.Sh.bulk (.sl ShP))).sum:=by
  intro l
  induction l with
  | nil=>simp [sumlen]
  | cons p r ih=>
   have h:=Ev.Sh.bulk_len ShP p
   unfold sumlen at*
   rw [List.map_cons,List.sum_cons,List.map_cons,List.sum_cons]
   omega
 have h:=this l
 show _≤(l.map (Ev.Sh.bulk (.sl ShP))).sum+1
 omega
theorem len_bulk (l:List (List Pt)):l.length≤Ev.Sh.bulk (.sl (.sl ShP)) l:=Ev.Sh.bulk_len (.sl ShP) l
def Few (l:List (List Pt)):Prop:=l.length≤24∧sumlen l≤24
instance (l:List (List Pt)):Decidable (Few l):=by unfold Few; infer_instance
theorem few_eq (l:List (List Pt)) (n:Nat) (hb:sumlen l≤100000000) (hl:l.length≤100000000) (hn:100000000<n):F.law46_few n l=some (decide (Few l)):=by
 unfold F.law46_few
 have h0:((0:Int),(0:Int))=(fun k:Nat=>((sumlen (l.take k):Int),(k:Int))) 0:=by simp [sumlen]
 have hc:loopN n (F.law46_few_b0 n l) (0,0)=some ((sumlen l:Int),(l.length:Int)):=by
  rw [h0]
  refine count_loop (fun k:Nat=>((sumlen (l.take k):Int),(k:Int))) l.length (fun k hk=>?_) ?_ n (by omega)
  ·
   have hg:l[k]? =some l[k]:=gE hk
   have hsu:=sumlen_take_succ hg
   have hle:=sumlen_take_le l (k+1)
   unfold F.law46_few_b0
   dsimp only
   rw [dT (by omega),kT,get_nat,hg,bB,chk_ok (by omega) (by omega),bB,chk_ok (by omega) (by omega),bB,hsu,Int.natCast_add]
   rfl
  ·
   unfold F.law46_few_b0
   dsimp only
   rw [dF (by omega),kF,List.take_length]
 rw [hc,bB]
 dsimp only
 by_cases h1:l.length≤24
 ·
  rw [dT (by omega),kT]
  refine congrArg some (decide_eq_decide.mpr ⟨fun h=>⟨h1,by omega⟩,fun h=>by have:=h.2; omega⟩)
 · rw [dF (by omega),kF,dF (fun h=>h1 h.1)]
theorem proj_ok {l:List (List Pt)} (h:(projS l).2.2.2=0):Vd l:=by
 apply Classical.byContradiction
 intro hv
 unfold projS at h
 rw [if_neg hv] at h
 cases h
theorem equalI (xs ys:List Int) (n:Nat) (hx:xs.length<n) (hb:xs.length≤1000000000):xs=ys→F.slices_Equal_Lint_int n xs ys=some true:=by
 rintro rfl
 unfold F.slices_Equal_Lint_int
 rw [dT rfl,Bool.not_true,kF]
 have hs:=scan_loop (body:=F.slices_Equal_Lint_int_b0 n xs xs) (fun k=>(k:Int)) xs.length (fun k=>none) (e:=(xs.length:Int)) (fun k hk=>by
  unfold F.slices_Equal_Lint_int_b0
  dsimp only
  rw [dT (by omega),kT,get_nat,gE hk,bB,bB,dT rfl,Bool.not_true,kF,chk_ok (by omega) (by omega),bB]
  rfl) (by
  unfold F.slices_Equal_Lint_int_b0
  dsimp only
  rw [dF (by omega),kF]) n hx
 rw [show (0:Int)=(fun k:Nat=>(k:Int)) 0 from rfl,hs,findSome_none (fun _ _=>rfl)]
 rfl
theorem equalD (d:Dg) (n:Nat) (h1:d.1.length<n) (h2:d.2.1.length<n) (b1:d.1.length≤1000000000) (b2:d.2.1.length≤1000000000):F.diagram_Equal n d.1 d.2.1 d.2.2.1 d.1 d.2.1 d.2.2.1=some true:=by
 unfold F.diagram_Equal
 rw [equalI _ _ n h1 b1 rfl,bB,kT,equalI _ _ n h2 b2 rfl,bB,kT,dT rfl]
theorem gd_small (cs:List (List Vis)) (sg:List Int) (lo:Int):(gdS cs sg lo).1.length≤64∧(gdS cs sg lo).2.1.length≤256:=by
 unfold gdS
 split
 ·
  rename_i hg
  have h64:=hg.1
  split
  ·
   dsimp only
   rw [hg.mt.1]
   omega
  · simp
 · simp
theorem proj_small (l:List (List Pt)):(projS l).1.length≤64∧(projS l).2.1.length≤256:=by
 unfold projS
 split
 ·
  split
  ·
   split
   · simp
   · exact gd_small _ _ _
  · simp
 · simp
end Pg
end Go.Proofs.Yteajmbanlohncaa
