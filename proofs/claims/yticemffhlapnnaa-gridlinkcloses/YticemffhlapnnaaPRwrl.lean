import Derived.Test.YticemffhlapnnaaPRbraid
import Derived.Test.YticemffhlapnnaaPRsegs
import Derived.Test.YticemffhlapnnaaPRpg
import Derived.Test.YticemffhlapnnaaPRdlaw
set_option linter.all false
namespace Go.Proofs.Yticemffhlapnnaa
open Ev
namespace Gl
open Gar
def bf (l:List Nat) (a b:Nat):Prop:= ∃i j:Nat,i<j∧l[i]? =some a∧l[j]? =some b
theorem at_eq {l:List Nat} (hn:l.Nodup) {i j a:Nat} (h1:l[i]? =some a) (h2:l[j]? =some a):i=j:=
 (List.getElem?_inj (List.getElem?_eq_some_iff.1 h1).1 hn).1 (by rw [h1,h2])
theorem bf.trans {l:List Nat} (hn:l.Nodup) {a b c:Nat} (h1:bf l a b) (h2:bf l b c):bf l a c:=by
 obtain ⟨i,j,h3,h4,h5⟩:=h1
 obtain ⟨p,q,h6,h7,h8⟩:=h2
 have:=at_eq hn h5 h7
 exact ⟨i,q,by omega,h4,h8⟩
theorem bf.lt {l:List Nat} (hn:l.Nodup) {a b i j:Nat} (h:bf l a b) (h1:l[i]? =some a) (h2:l[j]? =some b):i<j:=by
 obtain ⟨p,q,h6,h7,h8⟩:=h
 have:=at_eq hn h1 h7
 have:=at_eq hn h2 h8
 omega
theorem bf.ne {l:List Nat} (hn:l.Nodup) {a b:Nat} (h:bf l a b):a≠b:=by
 obtain ⟨p,q,h6,h7,h8⟩:=h
 intro e
 subst e
 have:=at_eq hn h7 h8
 omega
section
variable {L R : List Nat} {b f : Nat}
theorem ins_at (i:Nat):(L++f::R)[if i<L.length then i else i+1]? =(L++R)[i]? :=by
 by_cases h:i<L.length
 · rw [if_pos h,List.getElem?_append_left h,List.getElem?_append_left h]
 · rw [if_neg h,List.getElem?_append_right (by omega),List.getElem?_append_right (by omega),show i+1-L.length=(i-L.length)+1 by omega,List.getElem?_cons_succ]
theorem ins_mono {a c:Nat} (h:bf (L++R) a c):bf (L++f::R) a c:=by
 obtain ⟨i,j,h1,h2,h3⟩:=h
 refine ⟨_,_,?_,(ins_at i).trans h2,(ins_at j).trans h3⟩
 split<;>split<;>omega
theorem before_mono {a c:Nat} (h:bf (L++b::R) a c):bf (L++f::b::R) a c:=ins_mono h
theorem after_mono {a c:Nat} (h:bf (L++b::R) a c):bf (L++b::f::R) a c:=by
 have e:L++b::R=(L++[b])++R:=by simp
 have e2:L++b::f::R=(L++[b])++f::R:=by simp
 rw [e] at h
 rw [e2]
 exact ins_mono h
theorem before_new:bf (L++f::b::R) f b:=⟨L.length,L.length+1,by omega,by simp,by simp⟩
theorem after_new:bf (L++b::f::R) b f:=⟨L.length,L.length+1,by omega,by simp,by simp⟩
theorem before_far (hn:(L++b::R).Nodup) {a:Nat} (h:bf (L++b::R) a b):bf (L++f::b::R) a f:=by
 obtain ⟨i,j,h1,h2,h3⟩:=h
 have h4:(L++b::R)[L.length]? =some b:=by simp
 have:=at_eq hn h3 h4
 refine ⟨i,L.length,by omega,?_,by simp⟩
 rw [List.getElem?_append_left (by omega)] at h2⊢
 exact h2
theorem after_far (hn:(L++b::R).Nodup) {a:Nat} (h:bf (L++b::R) b a):bf (L++b::f::R) f a:=by
 obtain ⟨i,j,h1,h2,h3⟩:=h
 have h4:(L++b::R)[L.length]? =some b:=by simp
 have:=at_eq hn h2 h4
 refine ⟨L.length+1,j+1,by omega,by simp,?_⟩
 rw [List.getElem?_append_right (by omega)] at h3⊢
 obtain ⟨t,rfl⟩: ∃t,j=L.length+t+1:=⟨j-L.length-1,by omega⟩
 rw [show L.length+t+1-L.length=t+1 by omega,List.getElem?_cons_succ] at h3
 rw [show L.length+t+1+1-L.length=t+1+1 by omega,List.getElem?_cons_succ,List.getElem?_cons_succ]
 exact h3
end
def cst (l:List Nat):List Int:=l.map fun c:Nat=>(c:Int)
def mkt (N:Nat) (tp:Nat→Nat):List (Int×Int):=tab N fun c=>((c:Int),(tp c:Int))
structure Bi (s:Nat) (w:List Int) (k:Nat) (tp:Nat→Nat) (od pr:List Nat) (E B:Nat→Nat):Prop where
 nd:od.Nodup
 mo: ∀c,c∈od↔c<s+k
 pl:pr.length=s
 so: ∀i j a b:Nat,i<j→pr[i]? =some a→pr[j]? =some b→bf od a b
 pm: ∀c∈pr,c<s+k
 rs: ∀i j:Nat,i<j→j<s→bf od i j
 en: ∀c,c<s+k→c∉pr→∃j,j<k∧c=E j
 eo: ∀j,j<k→E j∉pr∧tp (E j)=s+j∧E j<s+j∧B j<s+j∧∀i,i≤j→B j≠E i
 al: ∀j,j<k→if 0<w.getD j 0 then bf od (s+j) (B j)∧bf od (B j) (E j) else bf od (E j) (B j)∧bf od (B j) (s+j)
 fa: ∀j,j<k→∀c,c<s+j→(∀i,i≤j→c≠E i)→c=B j∨if 0<w.getD j 0 then bf od c (s+j)∨bf od (E j) c else bf od c (E j)∨bf od (s+j) c
theorem Bi.nodup {s:Nat} {w:List Int} {k:Nat} {tp:Nat→Nat} {od pr:List Nat} {E B:Nat→Nat} (h:Bi s w k tp od pr E B) {i j a:Nat} (h1:pr[i]? =some a) (h2:pr[j]? =some a):i=j:=by
 rcases Nat.lt_trichotomy i j with q | q | q
 · exact absurd rfl ((h.so i j a a q h1 h2).ne h.nd)
 · exact q
 · exact absurd rfl ((h.so j i a a q h2 h1).ne h.nd)
theorem Bi.step {s:Nat} {w:List Int} {k:Nat} {tp:Nat→Nat} {od pr:List Nat} {E B:Nat→Nat} (h:Bi s w k tp od pr E B) {e b pe pb:Nat} {L R:List Nat} (he:pr[e]? =some pe) (hb:pr[b]? =some pb) (hod:od=L++pb::R)
  (hw:if 0<w.getD k 0 then e=b+1 else b=e+1):
  Bi s w (k+1) (fun c=>if c=pe then s+k else if c=s+k then 0 else tp c) (if 0<w.getD k 0 then L++(s+k)::pb::R else L++pb::(s+k)::R) ((pr.set e pb).set b (s+k)) (fun j=>if j=k then pe else E j) (fun j=>if j=k then pb else B j):=by
 have hel:=(List.getElem?_eq_some_iff.1 he).1
 have hbl:=(List.getElem?_eq_some_iff.1 hb).1
 have hne:e≠b:=by split at hw<;>omega
 have hpe:=h.pm pe (List.mem_of_getElem? he)
 have hpb:=h.pm pb (List.mem_of_getElem? hb)
 have hpp:pe≠pb:=fun q=>hne (h.nodup he (q▸hb))
 have hnd:=h.nd
 have hfr:s+k∉od:=fun q=>by have:=(h.mo _).1 q; omega
 rw [hod] at hnd
 -- the new order
 have mono: ∀a c,bf od a c→bf (if 0<w.getD k 0 then L++(s+k)::pb::R else L++pb::(s+k)::R) a c:=by
  intro a c hac
  rw [hod] at hac
  split
  · exact before_mono hac
  · exact after_mono hac
 have hperm:(if 0<w.getD k 0 then L++(s+k)::pb::R else L++pb::(s+k)::R).Perm ((s+k)::od):=by
  rw [hod]
  split
  · exact List.perm_middle
  ·
   have:=List.perm_middle (l₁:=L++[pb]) (l₂:=R) (a:=s+k)
   simpa using this
 have hnd':(if 0<w.getD k 0 then L++(s+k)::pb::R else L++pb::(s+k)::R).Nodup:=hperm.nodup_iff.2 (List.nodup_cons.2 ⟨hfr,h.nd⟩)
 -- the new present columns
 have hget: ∀t,((pr.set e pb).set b (s+k))[t]? =if t=b then some (s+k) else if t=e then some pb else pr[t]? :=by
  intro t
  rw [List.getElem?_set]
  by_cases q:b=t
  · rw [if_pos q,if_pos (by rw [List.length_set]; omega),if_pos q.symm]
  ·
   rw [if_neg q,if_neg (Ne.symm q),List.getElem?_set]
   by_cases q2:e=t
   · rw [if_pos q2,if_pos (by omega),if_pos q2.symm]
   · rw [if_neg q2,if_neg (Ne.symm q2)]
 have hmem: ∀c,c∈(pr.set e pb).set b (s+k)→c=s+k∨(c∈pr∧c≠pe):=by
  intro c hc
  obtain ⟨t,ht⟩:=List.mem_iff_getElem?.1 hc
  rw [hget] at ht
  split at ht
  · exact .inl (Option.some.inj ht).symm
  ·
   split at ht
   ·
    have:=Option.some.inj ht
    subst this
    exact .inr ⟨List.mem_of_getElem? hb,Ne.symm hpp⟩
   ·
    rename_i q1 q2
    refine .inr ⟨List.mem_of_getElem? ht,fun q=>q2 ?_⟩
    subst q
    exact h.nodup ht he
 have hmem2: ∀c,c∈pr→c≠pe→c∈(pr.set e pb).set b (s+k):=by
  intro c hc hcp
  obtain ⟨t,ht⟩:=List.mem_iff_getElem?.1 hc
  by_cases q:t=b
  ·
   subst q
   rw [hb] at ht
   have:=Option.some.inj ht
   subst this
   refine List.mem_of_getElem? (i:=e) ?_
   rw [hget,if_neg hne,if_pos rfl]
  ·
   by_cases q2:t=e
   ·
    subst q2
    rw [he] at ht
    exact absurd (Option.some.inj ht).symm hcp
   ·
    refine List.mem_of_getElem? (i:=t) ?_
    rw [hget,if_neg q,if_neg q2]; exact ht
 have hEk: ∀j,j<k→(if j=k then pe else E j)=E j:=fun j hj=>if_neg (by omega)
 have hBk: ∀j,j<k→(if j=k then pb else B j)=B j:=fun j hj=>if_neg (by omega)
 refine ⟨hnd',fun c=>?_,by rw [List.length_set,List.length_set,h.pl],?_,fun c hc=>?_,fun i j q1 q2=>mono _ _ (h.rs i j q1 q2),fun c hc hcn=>?_,fun j hj=>?_,fun j hj=>?_,fun j hj c hc hce=>?_⟩
 · rw [hperm.mem_iff,List.mem_cons,h.mo]; omega
 ·
  intro t u a c htu ha hc
  rw [hget] at ha hc
  have far: ∀a t,t<b→t≠e→pr[t]? =some a→(0<w.getD k 0)→bf (if 0<w.getD k 0 then L++(s+k)::pb::R else L++pb::(s+k)::R) a (s+k):=by
   intro a t ht hte hat hwk
   have:=h.so t b a pb ht hat hb
   rw [hod] at this
   rw [if_pos hwk]
   exact before_far hnd this
  by_cases hwk:0<w.getD k 0
  ·
   rw [if_pos hwk] at hw
   by_cases t1:t=b
   ·
    subst t1
    rw [if_pos rfl] at ha
    have:=Option.some.inj ha
    subst this
    rw [if_neg (by omega)] at hc
    have hnew:bf (if 0<w.getD k 0 then L++(s+k)::pb::R else L++pb::(s+k)::R) (s+k) pb:=by
     rw [if_pos hwk]; exact before_new
    by_cases u1:u=e
    ·
     rw [if_pos u1] at hc
     have:=Option.some.inj hc
     subst this
     exact hnew
    ·
     rw [if_neg u1] at hc
     exact hnew.trans hnd' (mono _ _ (h.so t u pb c htu hb hc))
   ·
    rw [if_neg t1] at ha
    by_cases t2:t=e
    ·
     rw [if_pos t2] at ha
     have:=Option.some.inj ha
     subst this
     rw [if_neg (by omega),if_neg (by omega)] at hc
     exact mono _ _ (h.so b u pb c (by omega) hb hc)
    ·
     rw [if_neg t2] at ha
     by_cases u1:u=b
     ·
      rw [if_pos u1] at hc
      have:=Option.some.inj hc
      subst this
      exact far a t (by omega) t2 ha hwk
     ·
      rw [if_neg u1] at hc
      by_cases u2:u=e
      ·
       rw [if_pos u2] at hc
       have:=Option.some.inj hc
       subst this
       exact mono _ _ (h.so t b a pb (by omega) ha hb)
      ·
       rw [if_neg u2] at hc
       exact mono _ _ (h.so t u a c htu ha hc)
  ·
   rw [if_neg hwk] at hw
   have hnew:bf (if 0<w.getD k 0 then L++(s+k)::pb::R else L++pb::(s+k)::R) pb (s+k):=by
    rw [if_neg hwk]; exact after_new
   by_cases t1:t=b
   ·
    subst t1
    rw [if_pos rfl] at ha
    have:=Option.some.inj ha
    subst this
    rw [if_neg (by omega),if_neg (by omega)] at hc
    have:=h.so t u pb c htu hb hc
    rw [hod] at this
    rw [if_neg hwk]
    exact after_far hnd this
   ·
    rw [if_neg t1] at ha
    by_cases t2:t=e
    ·
     rw [if_pos t2] at ha
     have:=Option.some.inj ha
     subst this
     by_cases u1:u=b
     ·
      rw [if_pos u1] at hc
      have:=Option.some.inj hc
      subst this
      exact hnew
     ·
      rw [if_neg u1,if_neg (by omega)] at hc
      exact mono _ _ (h.so b u pb c (by omega) hb hc)
    ·
     rw [if_neg t2] at ha
     by_cases u1:u=b
     ·
      rw [if_pos u1] at hc
      have:=Option.some.inj hc
      subst this
      exact (mono _ _ (h.so t b a pb (by omega) ha hb)).trans hnd' hnew
     ·
      rw [if_neg u1] at hc
      by_cases u2:u=e
      ·
       rw [if_pos u2] at hc
       have:=Option.some.inj hc
       subst this
       exact mono _ _ (h.so t b a pb (by omega) ha hb)
      ·
       rw [if_neg u2] at hc
       exact mono _ _ (h.so t u a c htu ha hc)
 ·
  rcases hmem c hc with q | ⟨q,_⟩
  · omega
  · have:=h.pm c q; omega
 ·
  have hck:c≠s+k:=fun q=>hcn (by
   subst q
   refine List.mem_of_getElem? (i:=b) ?_
   rw [hget,if_pos rfl])
  by_cases q:c∈pr
  ·
   by_cases q2:c=pe
   · exact ⟨k,by omega,by rw [if_pos rfl]; exact q2⟩
   · exact absurd (hmem2 c q q2) hcn
  ·
   obtain ⟨j,hj,e1⟩:=h.en c (by omega) q
   exact ⟨j,by omega,by rw [hEk j hj]; exact e1⟩
 ·
  by_cases q:j=k
  ·
   subst q
   rw [if_pos rfl,if_pos rfl,if_pos rfl]
   refine ⟨fun q=>?_,rfl,hpe,hpb,fun i hi=>?_⟩
   ·
    rcases hmem _ q with q | ⟨_,q⟩
    · omega
    · exact q rfl
   ·
    by_cases q:i=j
    · rw [if_pos q]; exact Ne.symm hpp
    ·
     rw [if_neg q]
     intro e1
     exact (h.eo i (by omega)).1 (e1▸List.mem_of_getElem? hb)
  ·
   have hj':j<k:=by omega
   obtain ⟨e1,e2,e3,e4,e5⟩:=h.eo j hj'
   rw [hEk j hj',hBk j hj']
   refine ⟨fun q=>?_,?_,e3,e4,fun i hi=>by rw [hEk i (by omega)]; exact e5 i hi⟩
   ·
    rcases hmem _ q with q | ⟨q,_⟩
    · omega
    · exact e1 q
   ·
    rw [if_neg (fun q=>e1 (by rw [q]; exact List.mem_of_getElem? he)),if_neg (by omega)]
    exact e2
 ·
  by_cases q:j=k
  ·
   subst q
   rw [if_pos rfl,if_pos rfl]
   by_cases hwk:0<w.getD j 0
   ·
    rw [if_pos hwk] at hw mono⊢
    rw [if_pos hwk]
    exact ⟨before_new,mono _ _ (h.so b e pb pe (by omega) hb he)⟩
   ·
    rw [if_neg hwk] at hw mono⊢
    rw [if_neg hwk]
    exact ⟨mono _ _ (h.so e b pe pb (by omega) he hb),after_new⟩
  ·
   have hj':j<k:=by omega
   have:=h.al j hj'
   rw [hEk j hj',hBk j hj']
   by_cases hwj:0<w.getD j 0
   ·
    rw [if_pos hwj] at this⊢
    exact ⟨mono _ _ this.1,mono _ _ this.2⟩
   ·
    rw [if_neg hwj] at this⊢
    exact ⟨mono _ _ this.1,mono _ _ this.2⟩
 ·
  by_cases q:j=k
  ·
   subst q
   have hcp:c∈pr:=Classical.byContradiction fun q=>by
    obtain ⟨i,hi,e1⟩:=h.en c hc q
    have:=hce i (by omega)
    rw [hEk i hi] at this
    exact this e1
   have hcpe:c≠pe:=by
    have:=hce j (Nat.le_refl _)
    rwa [if_pos rfl] at this
   obtain ⟨t,ht⟩:=List.mem_iff_getElem?.1 hcp
   have hte:t≠e:=fun q=>hcpe (by
    subst q
    rw [he] at ht
    exact (Option.some.inj ht).symm)
   rw [if_pos rfl,if_pos rfl]
   by_cases htb:t=b
   ·
    subst htb
    rw [hb] at ht
    exact .inl (Option.some.inj ht).symm
   ·
    right
    by_cases hwk:0<w.getD j 0
    ·
     rw [if_pos hwk] at hw mono⊢
     rw [if_pos hwk]
     rcases Nat.lt_or_ge t b with q | q
     ·
      left
      have:=h.so t b c pb q ht hb
      rw [hod] at this
      exact before_far hnd this
     ·
      right
      exact mono _ _ (h.so e t pe c (by omega) he ht)
    ·
     rw [if_neg hwk] at hw mono⊢
     rw [if_neg hwk]
     rcases Nat.lt_or_ge t b with q | q
     ·
      left
      exact mono _ _ (h.so t e c pe (by omega) ht he)
     ·
      right
      have:=h.so b t pb c (by omega) hb ht
      rw [hod] at this
      exact after_far hnd this
  ·
   have hj':j<k:=by omega
   have:=h.fa j hj' c hc (fun i hi=>by
    have:=hce i hi
    rwa [hEk i (by omega)] at this)
   rw [hEk j hj',hBk j hj']
   refine this.imp id fun this=>?_
   by_cases hwj:0<w.getD j 0
   ·
    rw [if_pos hwj] at this⊢
    exact this.imp (mono _ _) (mono _ _)
   ·
    rw [if_neg hwj] at this⊢
    exact this.imp (mono _ _) (mono _ _)
open Gar
theorem qda (l:List Nat):(cst l).length=l.length:=by simp [cst]
theorem cst_get {l:List Nat} {i a:Nat} (h:l[i]? =some a) {z:Int} (hz:z=(i:Int)):Ev.get (cst l) z=some (a:Int):=get_at hz (by unfold cst; rw [List.getElem?_map,h]; rfl)
theorem cst_app (a b:List Nat):cst (a++b)=cst a++cst b:=List.map_append
theorem cst_cons (a:Nat) (b:List Nat):cst (a::b)=(a:Int)::cst b:=rfl
theorem cst_mem {l:List Nat} {a:Nat}:(a:Int)∈cst l↔a∈l:=by
 unfold cst
 rw [List.mem_map]
 exact ⟨fun ⟨b,h1,h2⟩=>by rwa [←(show b=a by omega)],fun h=>⟨a,h,rfl⟩⟩
theorem mkt_len (N:Nat) (tp:Nat→Nat):(mkt N tp).length=N:=tab_len
theorem mkt_get {N:Nat} {tp:Nat→Nat} {c:Nat} (h:c<N) {z:Int} (hz:z=(c:Int)):Ev.get (mkt N tp) z=some ((c:Int),(tp c:Int)):=get_tab hz h
theorem step_val {s k:Nat} {tp:Nat→Nat} {od pr L R:List Nat} {e b pe pb:Nat} {v:Int} (he:pr[e]? =some pe) (hb:pr[b]? =some pb) (hod:od=L++pb::R) (hnd:od.Nodup) (hpe:pe<s+k) (hne:e≠b) (hv:v=0∨v=1) (hol:od.length<1000) (hs:s+k<1000) (n:Nat) (hn:2000<n) (f:Bool):
  F.qcw n s (mkt (s+k) tp) (cst od) k (cst pr) e b v f=some (.inl (mkt (s+(k+1)) (fun c=>if c=pe then s+k else if c=s+k then 0 else tp c),cst (if v=0 then L++(s+k)::pb::R else L++pb::(s+k)::R),((k+1:Nat):Int),cst ((pr.set e pb).set b (s+k)))):=by
 have hbl:=(List.getElem?_eq_some_iff.1 hb).1
 rw [hod] at hnd hol
 have hpbL:pb∉L:=fun m=>by
  rw [List.nodup_append] at hnd
  exact hnd.2.2 _ m _ List.mem_cons_self rfl
 have hlen:L.length<1000:=by rw [List.length_append] at hol; omega
 have g1:Ev.get (cst pr) (e:Int)=some (pe:Int):=cst_get he rfl
 have g2:Ev.get (cst pr) (b:Int)=some (pb:Int):=cst_get hb rfl
 have g3:Ev.get (mkt (s+k) tp) (pe:Int)=some ((pe:Int),(tp pe:Int)):=mkt_get hpe rfl
 have g5:Ev.get ((cst pr).set (e:Int).toNat (pb:Int)) (b:Int)=some (pb:Int):=get_at rfl (by
  rw [Int.toNat_natCast,List.getElem?_set_ne hne]
  unfold cst; rw [List.getElem?_map,hb]; rfl)
 have hidx:=index_eq (L:=cst L) (R:=cst R) (x:=(pb:Int)) n (fun m=>hpbL (cst_mem.1 m)) (by rw [qda]; omega) (by rw [qda]; omega)
 have hcl:(cst L++(pb:Int)::cst R).length<1000000:=by
  rw [List.length_append,List.length_cons,qda,qda]
  rw [List.length_append,List.length_cons] at hol
  omega
 have hins:F.qcm n (cst L++(pb:Int)::cst R) (((cst L).length:Int)+v) [((mkt (s+k) tp).length:Int)]=some (cst (if v=0 then L++(s+k)::pb::R else L++pb::(s+k)::R)):=by
  rcases hv with e2 | e2
  · rw [if_pos e2,e2,Int.add_zero,insert0 n hcl,cst_app,cst_cons,cst_cons,mkt_len]
  · rw [if_neg (by omega),e2,insert1 n hcl,cst_app,cst_cons,cst_cons,mkt_len]
 have hmk:((mkt (s+k) tp).set pe ((pe:Int),((s:Int)+k)))++[((s:Int)+k,0)]=mkt (s+(k+1)) (fun c=>if c=pe then s+k else if c=s+k then 0 else tp c):=by
  have e1:(mkt (s+k) tp).set pe ((pe:Int),((s:Int)+k))=mkt (s+k) (fun c=>if c=pe then s+k else if c=s+k then 0 else tp c):=by
   unfold mkt
   rw [tab_set]
   refine qek fun c hc=>?_
   dsimp only
   by_cases q:c=pe
   · rw [if_pos q,if_pos q,q,Int.natCast_add]
   · rw [if_neg q,if_neg q,if_neg (by omega)]
  rw [e1]
  unfold mkt tab
  rw [show s+(k+1)=s+k+1 by omega,List.range_succ,List.map_append]
  congr 1
  simp only [List.map_cons,List.map_nil]
  rw [if_neg (by omega)]
  simp
 unfold F.qcw
 rw [hod,cst_app,cst_cons,g1,g2,bB,qak (z:=(s:Int)+k) (by omega) (by omega),bB,g3,bB,bB,hidx,bB,
  qak (by rw [qda]; rcases hv with e2 | e2<;>omega) (by rw [qda]; rcases hv with e2 | e2<;>omega),bB,hins,bB,bB,bB,g5,bB,bB,
  qct (by rw [List.length_set,mkt_len]; simp only [List.length_cons,List.length_nil]; omega),bB,qak (by omega) (by omega),bB,Int.toNat_natCast,Int.toNat_natCast,Int.toNat_natCast,hmk,mkt_len]
 unfold cst
 rw [List.map_set,List.map_set]
 rfl
theorem Bi.start (s:Nat) (w:List Int):Bi s w 0 (fun _=>0) (List.range s) (List.range s) (fun _=>0) (fun _=>0) where
 nd:=List.nodup_range
 mo c:=by rw [List.mem_range]; omega
 pl:=List.length_range
 so i j a b h1 h2 h3:=⟨i,j,h1,h2,h3⟩
 pm c hc:=by rw [List.mem_range] at hc; omega
 rs i j h1 h2:=⟨i,j,h1,List.getElem?_range (by omega),List.getElem?_range (by omega)⟩
 en c hc hn:=absurd (List.mem_range.2 (by omega)) hn
 eo j hj:=by omega
 al j hj:=by omega
 fa j hj:=by omega
theorem run_letters (s:Nat) {w:List Int} (hw: ∀x∈w,x≠0∧-(s:Int)<x∧x<s) (hs:s+w.length<500) (n:Nat) (hn:2000<n):
  ∃tp od pr E B,Bi s w w.length tp od pr E B∧loopN n (F.qcd n s w) (mk0 s,rg s,0,rg s)=some (mkt (s+w.length) tp,cst od,(w.length:Int),cst pr):=by
 obtain ⟨r,h1,tp,od,pr,E,B,h2,h3⟩:=qdz (body:=F.qcd n s w)
  (fun a=> ∃k tp od pr E B,k≤w.length∧a=(mkt (s+k) tp,cst od,(k:Int),cst pr)∧Bi s w k tp od pr E B) (fun a=>w.length-a.2.2.1.toNat)
  (fun r=> ∃tp od pr E B,r=(mkt (s+w.length) tp,cst od,(w.length:Int),cst pr)∧Bi s w w.length tp od pr E B)
  (fun a ⟨k,tp,od,pr,E,B,hk,ha,hB⟩=>by
   subst ha
   by_cases hlt:k<w.length
   ·
    left
    have hx:=hw w[k] (List.getElem_mem hlt)
    have g:Ev.get w (k:Int)=some w[k]:=get_at rfl (gE hlt)
    have hgd:w.getD k 0=w[k]:=by rw [List.getD_eq_getElem?_getD,gE hlt]; rfl
    have hol:od.length<1000:=by
     have h1:od.length≤s+k:=by
      have:=sub_len2 hB.nd fun c hc=>(hB.mo c).1 hc
      exact this
     omega
    have hpl:=hB.pl
    have main: ∀(e b:Nat) (v:Int) (f:Bool),e<s→b<s→(if 0<w.getD k 0 then e=b+1 else b=e+1)→(v=if 0<w.getD k 0 then 0 else 1)→
      ∃s',F.qcw n s (mkt (s+k) tp) (cst od) k (cst pr) e b v f=some (.inl s')∧(∃k tp od pr E B,k≤w.length∧s'=(mkt (s+k) tp,cst od,(k:Int),cst pr)∧Bi s w k tp od pr E B)∧w.length-s'.2.2.1.toNat<w.length-k:=by
     intro e b v f he hb hw1 hv
     obtain ⟨pe,hpe⟩: ∃pe,pr[e]? =some pe:=⟨_,gE (by omega)⟩
     obtain ⟨pb,hpb⟩: ∃pb,pr[b]? =some pb:=⟨_,gE (by omega)⟩
     obtain ⟨L,R,hod⟩:=List.append_of_mem ((hB.mo pb).2 (hB.pm pb (List.mem_of_getElem? hpb)))
     have hne:e≠b:=by split at hw1<;>omega
     have hv2:v=0∨v=1:=by split at hv<;>omega
     have hst:=step_val (tp:=tp) (L:=L) (R:=R) hpe hpb hod hB.nd (hB.pm pe (List.mem_of_getElem? hpe)) hne hv2 hol (by omega) n hn f
     have hnx:=hB.step hpe hpb hod hw1
     have hif:(if v=0 then L++(s+k)::pb::R else L++pb::(s+k)::R)=(if 0<w.getD k 0 then L++(s+k)::pb::R else L++pb::(s+k)::R):=by
      by_cases q:0<w.getD k 0
      · rw [if_pos q] at hv⊢; rw [if_pos hv]
      · rw [if_neg q] at hv⊢; rw [if_neg (by omega)]
     rw [hif] at hst
     exact ⟨_,hst,⟨k+1,_,_,_,_,_,by omega,rfl,hnx⟩,by dsimp only; omega⟩
    unfold F.qcd
    dsimp only
    rw [dT (show (k:Int)<(w.length:Int) by omega),kT,g,bB,qak (z:=-w[k]) (by omega) (by omega),bB,qak (z:=max w[k] (-w[k])-1) (by omega) (by omega),bB]
    by_cases hlt0:w[k]<0
    ·
     rw [dT hlt0,kT,bB]
     have m1:max w[k] (-w[k])-1=((w[k].natAbs-1:Nat):Int):=by omega
     have m2:max w[k] (-w[k])=((w[k].natAbs:Nat):Int):=by omega
     have hn0: ¬0<w.getD k 0:=by rw [hgd]; omega
     rw [m1,m2,Int.toNat_natCast]
     exact main (w[k].natAbs-1) w[k].natAbs 1 true (by omega) (by omega) (by rw [if_neg hn0]; omega) (by rw [if_neg hn0])
    ·
     rw [dF hlt0,kF]
     have m1:max w[k] (-w[k])-1=((w[k].natAbs-1:Nat):Int):=by omega
     have m2:max w[k] (-w[k])=((w[k].natAbs:Nat):Int):=by omega
     have hn0:0<w.getD k 0:=by rw [hgd]; omega
     rw [m1,m2,Int.toNat_natCast]
     exact main w[k].natAbs (w[k].natAbs-1) 0 false (by omega) (by omega) (by rw [if_pos hn0]; omega) (by rw [if_pos hn0])
   ·
    right
    have:k=w.length:=by omega
    subst this
    refine ⟨_,?_,tp,od,pr,E,B,rfl,hB⟩
    unfold F.qcd
    dsimp only
    rw [dF (by omega),kF])
  n (mk0 s,rg s,0,rg s) ⟨0,fun _=>0,List.range s,List.range s,fun _=>0,fun _=>0,Nat.zero_le _,rfl,Bi.start s w⟩ (by dsimp only; omega)
 subst h2
 exact ⟨tp,od,pr,E,B,h3,h1⟩
where
 sub_len2 {od:List Nat} {N:Nat} (hn:od.Nodup) (h: ∀c∈od,c<N):od.length≤N:=by
  have:=Pg.qea hn (fun c hc=>List.mem_range.2 (h c hc))
  simpa using this
open Gar
def topj (s k:Nat) (tp:Nat→Nat) (pr:List Nat) (j c:Nat):Nat:=if c∈pr.take j then 2*s+k-1-pr.idxOf c else tp c
def xlst (s k:Nat) (od:List Nat):List Nat:=od++(List.range s).map fun c=>s+k+c
def olst (s k:Nat) (tp:Nat→Nat) (od pr:List Nat):List Nat:=od.map (topj s k tp pr s)++(List.range s).map fun c=>s-1-c
theorem idx_at {l:List Nat} (hn:l.Nodup) {i a:Nat} (h:l[i]? =some a):l.idxOf a=i:=by
 have hm:=List.mem_of_getElem? h
 have h1:l.idxOf a<l.length:=List.idxOf_lt_length_of_mem hm
 have h2:l[l.idxOf a]? =some a:=by rw [gE h1,List.getElem_idxOf h1]
 exact at_eq hn h2 h
theorem Bi.prn {s:Nat} {w:List Int} {k:Nat} {tp:Nat→Nat} {od pr:List Nat} {E B:Nat→Nat} (h:Bi s w k tp od pr E B):pr.Nodup:=by
 unfold List.Nodup
 rw [List.pairwise_iff_getElem]
 intro i j hi hj hij e
 have h1:=gE hj
 have h2:pr[i]? =some pr[j]:=by rw [←e]; exact gE hi
 have:=h.nodup h2 h1
 omega
theorem tops_val {s k:Nat} {w:List Int} {tp:Nat→Nat} {od pr:List Nat} {E B:Nat→Nat} (h:Bi s w k tp od pr E B) (hs:2*s+k≤40) (z:Int) (hz:z=2*(s:Int)+k) (n:Nat) (hn:2000<n):
  loopN n (F.qdl n z (rg s) (cst pr)) (0,mkt (s+k) tp)=some ((s:Int),mkt (s+k) (topj s k tp pr s)):=by
 have hpl:=h.pl
 have key:=qbp (body:=F.qdl n z (rg s) (cst pr)) (fun j=>((j:Int),mkt (s+k) (topj s k tp pr j))) s (r:=((s:Int),mkt (s+k) (topj s k tp pr s))) (fun j hj=>?_) ?_ n (by omega)
 ·
  have e0:mkt (s+k) tp=mkt (s+k) (topj s k tp pr 0):=qek fun c _=>by unfold topj; simp
  rw [e0]
  exact key
 ·
  obtain ⟨c,hc⟩: ∃c,pr[j]? =some c:=⟨_,gE (by omega)⟩
  have hcl:=h.pm c (List.mem_of_getElem? hc)
  have hidx:=idx_at h.prn hc
  unfold F.qdl
  dsimp only
  rw [rg_len,dT (by omega),kT,cst_get hc rfl,bB,qak (by omega) (by omega),bB,qak (by omega) (by omega),bB,mkt_get hcl rfl,bB,qak (by omega) (by omega),bB,Int.toNat_natCast]
  have hset:(mkt (s+k) (topj s k tp pr j)).set c ((c:Int),z-1-(j:Int))=mkt (s+k) (topj s k tp pr (j+1)):=by
   unfold mkt
   rw [tab_set]
   refine qek fun d hd=>?_
   unfold topj
   rw [List.take_add_one,hc]
   by_cases q:d=c
   ·
    subst q
    rw [if_pos rfl,if_pos (by simp),hidx]
    exact Prod.ext rfl (by dsimp only; omega)
   ·
    rw [if_neg q]
    have:d∈pr.take j++(some c).toList↔d∈pr.take j:=by simp [q]
    by_cases q2:d∈pr.take j
    · rw [if_pos q2,if_pos (this.2 q2)]
    · rw [if_neg q2,if_neg (fun m=>q2 (this.1 m))]
  rw [hset]
  rfl
 ·
  unfold F.qdl
  dsimp only
  rw [rg_len,dF (by omega),kF]
theorem rows_val {N:Nat} {tp:Nat→Nat} {od:List Nat} (ho: ∀c∈od,c<N) (hl:od.length<1000) (n:Nat) (hn:2000<n):
  loopN n (F.qbi n (cst od) (mkt N tp)) (0,([]:List Int),([]:List Int))=some ((od.length:Int),cst od,cst (od.map tp)):=by
 have key:=qbp (body:=F.qbi n (cst od) (mkt N tp)) (fun j=>((j:Int),cst (od.take j),cst ((od.take j).map tp))) od.length (r:=((od.length:Int),cst od,cst (od.map tp))) (fun j hj=>?_) ?_ n (by omega)
 · exact key
 ·
  obtain ⟨c,hc⟩: ∃c,od[j]? =some c:=⟨_,gE hj⟩
  have hcl:=ho c (List.mem_of_getElem? hc)
  have h1:(od.take j).length≤j:=by rw [List.length_take]; omega
  unfold F.qbi
  dsimp only
  rw [qda,dT (by omega),kT,cst_get hc rfl,bB,mkt_get hcl rfl,bB,qct (by rw [qda]; simp only [List.length_cons,List.length_nil]; omega),bB,bB,qct (by rw [qda,List.length_map]; simp only [List.length_cons,List.length_nil]; omega),bB,qak (by omega) (by omega),bB,
   List.take_add_one,hc,Option.toList_some,List.map_append,cst_app,cst_app]
  rfl
 ·
  unfold F.qbi
  dsimp only
  rw [qda,dF (by omega),kF,List.take_length]
theorem close_val {s k:Nat} (hs:2*s+k≤40) (z:Int) (hz:z=2*(s:Int)+k) {X O:List Nat} (hX:X.length≤100) (hO:O.length≤100) (n:Nat) (hn:2000<n):
  loopN n (F.qbj n s z) (0,cst X,cst O)=some ((s:Int),cst (X++(List.range s).map fun c=>s+k+c),cst (O++(List.range s).map fun c=>s-1-c)):=by
 have key:=qbp (body:=F.qbj n s z) (fun j=>((j:Int),cst (X++(List.range j).map fun c=>s+k+c),cst (O++(List.range j).map fun c=>s-1-c))) s (r:=((s:Int),cst (X++(List.range s).map fun c=>s+k+c),cst (O++(List.range s).map fun c=>s-1-c))) (fun j hj=>?_) ?_ n (by omega)
 · simpa using key
 ·
  unfold F.qbj
  dsimp only
  rw [dT (by omega),kT,qak (by omega) (by omega),bB,qak (by omega) (by omega),bB,qak (by omega) (by omega),bB,qak (by omega) (by omega),bB,
   qct (by rw [qda,List.length_append,List.length_map,List.length_range]; simp only [List.length_cons,List.length_nil]; omega),bB,qct (by rw [qda,List.length_append,List.length_map,List.length_range]; simp only [List.length_cons,List.length_nil]; omega),bB,qak (by omega) (by omega),bB,
   List.range_succ,List.map_append,List.map_append,←List.append_assoc,←List.append_assoc,cst_app (X++_),cst_app (O++_)]
  have e1:z-1-((s:Int)-1-(j:Int))=((s+k+j:Nat):Int):=by omega
  have e2:(s:Int)-1-(j:Int)=((s-1-j:Nat):Int):=by omega
  rw [e1,e2]
  rfl
 ·
  unfold F.qbj
  dsimp only
  rw [dF (by omega),kF]
open Gar Pg
theorem nd_perm {α:Type} [DecidableEq α]: ∀{l1 l2:List α},l1.Nodup→l2.Nodup→(∀a,a∈l1↔a∈l2)→l1.Perm l2
 | [],l2,_,_,h=>by
  have:l2=[]:=List.eq_nil_iff_forall_not_mem.2 fun a ha=>absurd ((h a).2 ha) (by simp)
  rw [this]
 | a::t,l2,h1,h2,h=>by
  obtain ⟨ha,ht⟩:=List.nodup_cons.1 h1
  have hm:a∈l2:=(h a).1 (by simp)
  refine ((nd_perm ht (h2.erase a) fun b=>?_).cons a).trans (List.perm_cons_erase hm).symm
  rw [h2.mem_erase_iff,←h b,List.mem_cons]
  exact ⟨fun hb=>⟨fun e=>ha (e▸hb),.inr hb⟩,fun hb=>hb.2.resolve_left hb.1⟩
section
variable {s : Nat} {w : List Int} {tp : Nat → Nat} {od pr : List Nat} {E B : Nat → Nat} (h : Bi s w w.length tp od pr E B)
include h
theorem Bi.top1 {j:Nat} (hj:j<w.length):topj s w.length tp pr s (E j)=s+j:=by
 obtain ⟨e1,e2,_⟩:=h.eo j hj
 unfold topj
 rw [if_neg (fun m=>e1 (List.mem_of_mem_take m)),e2]
theorem Bi.top2 {p c:Nat} (hp:pr[p]? =some c):topj s w.length tp pr s c=2*s+w.length-1-p:=by
 unfold topj
 rw [if_pos (by rw [List.take_of_length_le (by rw [h.pl]; exact Nat.le_refl _)]; exact List.mem_of_getElem? hp),idx_at h.prn hp]
theorem Bi.top_cases {c:Nat} (hc:c<s+w.length):(∃j,j<w.length∧c=E j∧topj s w.length tp pr s c=s+j)∨∃p,p<s∧pr[p]? =some c∧topj s w.length tp pr s c=2*s+w.length-1-p:=by
 by_cases q:c∈pr
 ·
  obtain ⟨p,hp⟩:=List.mem_iff_getElem?.1 q
  have:=(List.getElem?_eq_some_iff.1 hp).1
  rw [h.pl] at this
  exact .inr ⟨p,this,hp,h.top2 hp⟩
 ·
  obtain ⟨j,hj,e⟩:=h.en c hc q
  exact .inl ⟨j,hj,e,by rw [e]; exact h.top1 hj⟩
theorem Bi.top_lt {c:Nat} (hc:c<s+w.length):c<topj s w.length tp pr s c∧s≤topj s w.length tp pr s c∧topj s w.length tp pr s c<2*s+w.length:=by
 rcases h.top_cases hc with ⟨j,hj,e1,e2⟩ | ⟨p,hp,e1,e2⟩
 ·
  have:=(h.eo j hj).2.2.1
  omega
 · omega
theorem Bi.top_inj {c d:Nat} (hc:c<s+w.length) (hd:d<s+w.length) (e:topj s w.length tp pr s c=topj s w.length tp pr s d):c=d:=by
 rcases h.top_cases hc with ⟨j,hj,e1,e2⟩ | ⟨p,hp,e1,e2⟩<;>rcases h.top_cases hd with ⟨j',hj',e1',e2'⟩ | ⟨p',hp',e1',e2'⟩
 ·
  have:j=j':=by omega
  rw [e1,e1',this]
 · omega
 · omega
 ·
  have:p=p':=by omega
  subst this
  rw [e1] at e1'
  exact Option.some.inj e1'
theorem Bi.odl:od.length=s+w.length:=by
 have h1:od.length≤s+w.length:=run_letters.sub_len2 h.nd fun c hc=>(h.mo c).1 hc
 have h2:=Pg.qea (l1:=List.range (s+w.length)) (l2:=od) List.nodup_range fun c hc=>(h.mo c).2 (List.mem_range.1 hc)
 rw [List.length_range] at h2
 omega
omit h in
theorem Bi.xl_at (h:Bi s w w.length tp od pr E B) {i c:Nat} (hi:od[i]? =some c):(xlst s w.length od)[i]? =some c∧(olst s w.length tp od pr)[i]? =some (topj s w.length tp pr s c):=by
 have hl:=(List.getElem?_eq_some_iff.1 hi).1
 unfold xlst olst
 rw [List.getElem?_append_left hl,List.getElem?_append_left (by rw [List.length_map]; exact hl),List.getElem?_map,hi]
 exact ⟨rfl,rfl⟩
theorem Bi.cl_at {c:Nat} (hc:c<s):(xlst s w.length od)[s+w.length+c]? =some (s+w.length+c)∧(olst s w.length tp od pr)[s+w.length+c]? =some (s-1-c):=by
 have hl:=h.odl
 unfold xlst olst
 rw [List.getElem?_append_right (by omega),List.getElem?_append_right (by rw [List.length_map]; omega),List.length_map,hl,show s+w.length+c-(s+w.length)=c by omega]
 simp [hc]
theorem Bi.vg (h2:2≤2*s+w.length) (h40:2*s+w.length≤40) (hs:1≤s):VG (cst (xlst s w.length od)) (cst (olst s w.length tp od pr)):=by
 have hl:=h.odl
 have xl:(xlst s w.length od).length=2*s+w.length:=by
  unfold xlst; rw [List.length_append,List.length_map,List.length_range,hl]; omega
 have ol:(olst s w.length tp od pr).length=2*s+w.length:=by
  unfold olst; rw [List.length_append,List.length_map,List.length_map,List.length_range,hl]; omega
 have odlt: ∀c∈od,c<s+w.length:=fun c hc=>(h.mo c).1 hc
 have cn: ∀l:List Nat,l.Nodup→(cst l).Nodup:=fun l hn=>Pg.qcg hn fun x _ y _ e=>by omega
 refine ⟨by rw [qda,xl]; exact h2,by rw [qda,xl]; exact h40,by rw [qda,qda,xl,ol],?_,?_,?_⟩
 ·
  refine isP_of (fun z hz=>?_) (cn _ ?_)
  ·
   rw [qda,xl]
   unfold cst at hz
   obtain ⟨c,hc,rfl⟩:=List.mem_map.1 hz
   unfold xlst at hc
   rcases List.mem_append.1 hc with q | q
   · have:=odlt c q; omega
   ·
    obtain ⟨d,hd,rfl⟩:=List.mem_map.1 q
    have:=List.mem_range.1 hd; omega
  ·
   unfold xlst
   rw [List.nodup_append]
   refine ⟨h.nd,Pg.qcg List.nodup_range fun x _ y _ e=>by omega,fun a ha b hb e=>?_⟩
   have:=odlt a ha
   obtain ⟨d,hd,rfl⟩:=List.mem_map.1 hb
   omega
 ·
  refine isP_of (fun z hz=>?_) (cn _ ?_)
  ·
   rw [qda,ol]
   unfold cst at hz
   obtain ⟨c,hc,rfl⟩:=List.mem_map.1 hz
   unfold olst at hc
   rcases List.mem_append.1 hc with q | q
   ·
    obtain ⟨d,hd,rfl⟩:=List.mem_map.1 q
    have:=h.top_lt (odlt d hd); omega
   ·
    obtain ⟨d,hd,rfl⟩:=List.mem_map.1 q
    omega
  ·
   unfold olst
   rw [List.nodup_append]
   refine ⟨Pg.qcg h.nd fun x hx y hy e=>h.top_inj (odlt x hx) (odlt y hy) e,Pg.qcg List.nodup_range fun x hx y hy e=>by rw [List.mem_range] at hx hy; omega,fun a ha b hb e=>?_⟩
   obtain ⟨c,hc,rfl⟩:=List.mem_map.1 ha
   obtain ⟨d,hd,rfl⟩:=List.mem_map.1 hb
   have:=h.top_lt (odlt c hc)
   omega
 ·
  intro i hi
  rw [qda,xl] at hi
  unfold cst
  rw [List.getElem?_map,List.getElem?_map]
  rcases Nat.lt_or_ge i (s+w.length) with q | q
  ·
   obtain ⟨c,hc⟩: ∃c,od[i]? =some c:=⟨_,gE (by omega)⟩
   obtain ⟨e1,e2⟩:=h.xl_at hc
   have:=h.top_lt (odlt c (List.mem_of_getElem? hc))
   rw [e1,e2]
   intro e
   have e3:(c:Int)=(topj s w.length tp pr s c:Nat):=Option.some.inj e
   omega
  ·
   obtain ⟨d,rfl⟩: ∃d,i=s+w.length+d:=⟨i-(s+w.length),by omega⟩
   obtain ⟨e1,e2⟩:=h.cl_at (c:=d) (by omega)
   rw [e1,e2]
   intro e
   have e3:((s+w.length+d:Nat):Int)=((s-1-d:Nat):Int):=Option.some.inj e
   omega
end
structure Bg (s:Nat) (w:List Int) (tp:Nat→Nat) (od pr:List Nat) (E B x o cx co:Nat→Nat):Prop where
 bi:Bi s w w.length tp od pr E B
 gd:Gd (2*s+w.length) x o cx co
 st: ∀i c,od[i]? =some c→x i=c∧o i=topj s w.length tp pr s c
 cl: ∀c,c<s→x (s+w.length+c)=s+w.length+c∧o (s+w.length+c)=s-1-c
theorem Bi.bg {s:Nat} {w:List Int} {tp:Nat→Nat} {od pr:List Nat} {E B:Nat→Nat} (h:Bi s w w.length tp od pr E B) (h40:2*s+w.length≤40) (hs:1≤s):
  ∃x o cx co,Bg s w tp od pr E B x o cx co∧cst (xlst s w.length od)=li (2*s+w.length) x∧cst (olst s w.length tp od pr)=li (2*s+w.length) o:=by
 obtain ⟨n,x,o,cx,co,g,e1,e2⟩:=(h.vg (by omega) h40 hs).gd
 have hl:=h.odl
 have hn:n=2*s+w.length:=by
  have:=congrArg List.length e1
  rw [qda,li_len] at this
  rw [←this]
  unfold xlst; rw [List.length_append,List.length_map,List.length_range,hl]; omega
 subst hn
 have key: ∀(l:List Nat) (f:Nat→Nat),cst l=li (2*s+w.length) f→∀i c,l[i]? =some c→i<2*s+w.length→f i=c:=by
  intro l f e i c hi hlt
  have h1:(cst l)[i]? =some (c:Int):=by unfold cst; rw [List.getElem?_map,hi]; rfl
  rw [e,li_at hlt] at h1
  have:=Option.some.inj h1
  omega
 refine ⟨x,o,cx,co,⟨h,g,fun i c hi=>?_,fun c hc=>?_⟩,e1,e2⟩
 ·
  have hlt:=(List.getElem?_eq_some_iff.1 hi).1
  obtain ⟨q1,q2⟩:=h.xl_at hi
  exact ⟨key _ x e1 i _ q1 (by omega),key _ o e2 i _ q2 (by omega)⟩
 ·
  obtain ⟨q1,q2⟩:=h.cl_at hc
  exact ⟨key _ x e1 _ _ q1 (by omega),key _ o e2 _ _ q2 (by omega)⟩
section
variable {s : Nat} {w : List Int} {tp : Nat → Nat} {od pr : List Nat} {E B x o cx co : Nat → Nat} (b : Bg s w tp od pr E B x o cx co)
include b
theorem Bg.cx_st {i c:Nat} (h:od[i]? =some c):cx c=i:=by
 have:=(b.st i c h).1
 rw [←this]
 exact b.gd.px.gf i
theorem Bg.co_st {i c:Nat} (h:od[i]? =some c):co (topj s w.length tp pr s c)=i:=by
 rw [←(b.st i c h).2]
 exact b.gd.po.gf i
theorem Bg.cx_cl {c:Nat} (hc:c<s):cx (s+w.length+c)=s+w.length+c:=by
 have:=b.gd.px.gf (s+w.length+c)
 rwa [(b.cl c hc).1] at this
theorem Bg.co_cl {r:Nat} (hr:r<s):co r=s+w.length+(s-1-r):=by
 have:=b.gd.po.gf (s+w.length+(s-1-r))
 rw [(b.cl (s-1-r) (by omega)).2,show s-1-(s-1-r)=r by omega] at this
 exact this
theorem Bg.pos {c:Nat} (hc:c<s+w.length): ∃i,i<s+w.length∧od[i]? =some c:=by
 obtain ⟨i,hi⟩:=List.mem_iff_getElem?.1 ((b.bi.mo c).2 hc)
 have:=(List.getElem?_eq_some_iff.1 hi).1
 rw [b.bi.odl] at this
 exact ⟨i,this,hi⟩
theorem Bg.letter {j:Nat} (hj:j<w.length): ∃p q r,od[p]? =some (s+j)∧od[q]? =some (E j)∧od[r]? =some (B j)∧cx (s+j)=p∧co (s+j)=q∧(if 0<w.getD j 0 then p<r∧r<q else q<r∧r<p):=by
 obtain ⟨e1,e2,e3,e4,e5⟩:=b.bi.eo j hj
 obtain ⟨p,_,hp⟩:=b.pos (c:=s+j) (by omega)
 obtain ⟨q,_,hq⟩:=b.pos (c:=E j) (by omega)
 obtain ⟨r,_,hr⟩:=b.pos (c:=B j) (by omega)
 refine ⟨p,q,r,hp,hq,hr,b.cx_st hp,?_,?_⟩
 ·
  have:=b.co_st hq
  rwa [b.bi.top1 hj] at this
 ·
  have:=b.bi.al j hj
  by_cases hw:0<w.getD j 0
  ·
   rw [if_pos hw] at this⊢
   exact ⟨this.1.lt b.bi.nd hp hr,this.2.lt b.bi.nd hr hq⟩
  ·
   rw [if_neg hw] at this⊢
   exact ⟨this.1.lt b.bi.nd hq hr,this.2.lt b.bi.nd hr hp⟩
theorem Bg.top_b {j:Nat} (hj:j<w.length):s+j<topj s w.length tp pr s (B j):=by
 obtain ⟨e1,e2,e3,e4,e5⟩:=b.bi.eo j hj
 rcases b.bi.top_cases (c:=B j) (by omega) with ⟨i,hi,q1,q2⟩ | ⟨p,hp,q1,q2⟩
 ·
  rcases Nat.lt_or_ge j i with q | q
  · omega
  · exact absurd q1 (e5 i q)
 · omega
theorem Bg.cr_iff {i r:Nat} (hi:i<2*s+w.length) (hr:r<2*s+w.length):cr x o cx co i r=true↔∃j,j<w.length∧od[i]? =some (B j)∧r=s+j:=by
 have hl:=b.bi.odl
 constructor
 ·
  intro hc
  unfold cr at hc
  simp only [Bool.and_eq_true,decide_eq_true_eq] at hc
  obtain ⟨⟨c1,c2⟩,c3,c4⟩:=hc
  rcases Nat.lt_or_ge i (s+w.length) with q | q
  ·
   obtain ⟨c,hic⟩: ∃c,od[i]? =some c:=⟨_,gE (by omega)⟩
   have hcl:=(b.bi.mo c).1 (List.mem_of_getElem? hic)
   obtain ⟨q1,q2⟩:=b.st i c hic
   have hlt:=b.bi.top_lt hcl
   rw [q1,q2] at c1 c2
   rcases Nat.lt_or_ge r s with r1 | r1
   ·
    exfalso
    obtain ⟨p,hp1,hp⟩:=b.pos (c:=r) (by omega)
    have k1:=b.cx_st hp
    have k2:=b.co_cl r1
    have:=(b.bi.rs c r (by omega) r1).lt b.bi.nd hic hp
    omega
   ·
    rcases Nat.lt_or_ge r (s+w.length) with r2 | r2
    ·
     obtain ⟨j,rfl⟩: ∃j,r=s+j:=⟨r-s,by omega⟩
     have hj:j<w.length:=by omega
     refine ⟨j,hj,?_,rfl⟩
     obtain ⟨p,t,u,hp,ht,hu,k1,k2,k3⟩:=b.letter hj
     have hce: ∀i',i'≤j→c≠E i':=fun i' hi' e=>by
      have:=b.bi.top1 (j:=i') (by omega)
      rw [←e] at this
      omega
     rcases b.bi.fa j hj c (by omega) hce with e | hf
     · rw [hic,e]
     ·
      exfalso
      by_cases hw:0<w.getD j 0
      ·
       rw [if_pos hw] at hf k3
       rcases hf with hf | hf
       · have:=hf.lt b.bi.nd hic hp; omega
       · have:=hf.lt b.bi.nd ht hic; omega
      ·
       rw [if_neg hw] at hf k3
       rcases hf with hf | hf
       · have:=hf.lt b.bi.nd hic ht; omega
       · have:=hf.lt b.bi.nd hp hic; omega
    ·
     exfalso
     obtain ⟨d,rfl⟩: ∃d,r=s+w.length+d:=⟨r-(s+w.length),by omega⟩
     have k1:=b.cx_cl (c:=d) (by omega)
     have hpl:=b.bi.pl
     obtain ⟨a,ha⟩: ∃a,pr[s-1-d]? =some a:=⟨_,gE (by omega)⟩
     obtain ⟨p,hp1,hp⟩:=b.pos (c:=a) (b.bi.pm a (List.mem_of_getElem? ha))
     have k2:=b.co_st hp
     rw [b.bi.top2 ha,show 2*s+w.length-1-(s-1-d)=s+w.length+d by omega] at k2
     rcases b.bi.top_cases hcl with ⟨j,hj,z1,z2⟩ | ⟨t,ht,z1,z2⟩
     · omega
     ·
      have:=(b.bi.so t (s-1-d) c a (by omega) z1 ha).lt b.bi.nd hic hp
      omega
  ·
   exfalso
   obtain ⟨d,rfl⟩: ∃d,i=s+w.length+d:=⟨i-(s+w.length),by omega⟩
   obtain ⟨q1,q2⟩:=b.cl d (by omega)
   rw [q1,q2] at c1 c2
   rcases Nat.lt_or_ge r s with r1 | r1
   ·
    obtain ⟨p,hp1,hp⟩:=b.pos (c:=r) (by omega)
    have k1:=b.cx_st hp
    have k2:=b.co_cl r1
    omega
   ·
    rcases Nat.lt_or_ge r (s+w.length) with r2 | r2
    ·
     obtain ⟨j,rfl⟩: ∃j,r=s+j:=⟨r-s,by omega⟩
     obtain ⟨p,t,u,hp,ht,hu,k1,k2,k3⟩:=b.letter (j:=j) (by omega)
     have:=(List.getElem?_eq_some_iff.1 hp).1
     have:=(List.getElem?_eq_some_iff.1 ht).1
     omega
    ·
     obtain ⟨e,rfl⟩: ∃e,r=s+w.length+e:=⟨r-(s+w.length),by omega⟩
     have k1:=b.cx_cl (c:=e) (by omega)
     have hpl:=b.bi.pl
     obtain ⟨a,ha⟩: ∃a,pr[s-1-e]? =some a:=⟨_,gE (by omega)⟩
     obtain ⟨p,hp1,hp⟩:=b.pos (c:=a) (b.bi.pm a (List.mem_of_getElem? ha))
     have k2:=b.co_st hp
     rw [b.bi.top2 ha,show 2*s+w.length-1-(s-1-e)=s+w.length+e by omega] at k2
     omega
 ·
  rintro ⟨j,hj,hij,rfl⟩
  obtain ⟨p,t,u,hp,ht,hu,k1,k2,k3⟩:=b.letter hj
  have:=at_eq b.bi.nd hij hu
  subst this
  obtain ⟨q1,q2⟩:=b.st i _ hij
  have hb:=(b.bi.eo j hj).2.2.2.1
  have ht:=b.top_b hj
  unfold cr
  rw [q1,q2,k1,k2,dT (by omega),dT (by omega)]
  by_cases hw:0<w.getD j 0
  ·
   rw [if_pos hw] at k3
   rw [dT (by omega),dT (by omega)]; rfl
  ·
   rw [if_neg hw] at k3
   rw [dT (by omega),dT (by omega)]; rfl
theorem Bg.sign {j:Nat} (hj:j<w.length):sgn x o cx co (od.idxOf (B j),s+j)=if 0<w.getD j 0 then 1 else -1:=by
 obtain ⟨p,t,u,hp,ht,hu,k1,k2,k3⟩:=b.letter hj
 have hi:=idx_at b.bi.nd hu
 obtain ⟨q1,q2⟩:=b.st u _ hu
 have hb:=(b.bi.eo j hj).2.2.2.1
 have htb:=b.top_b hj
 unfold sgn
 dsimp only
 rw [hi,q1,q2,k1,k2,dT (show B j<topj s w.length tp pr s (B j) by omega)]
 by_cases hw:0<w.getD j 0
 ·
  rw [if_pos hw] at k3⊢
  rw [dF (by omega)]; rfl
 ·
  rw [if_neg hw] at k3⊢
  rw [dT (by omega)]; rfl
theorem Bg.crossings:(crl (2*s+w.length) x o cx co).Perm ((List.range w.length).map fun j=>(od.idxOf (B j),s+j)):=by
 have hl:=b.bi.odl
 refine nd_perm (qfg ..) (Pg.qcg List.nodup_range fun j hj k hk e=>by have:=(Prod.mk.inj e).2; omega) fun p=>?_
 obtain ⟨i,r⟩:=p
 rw [qej,List.mem_map]
 constructor
 ·
  rintro ⟨h1,h2,h3⟩
  obtain ⟨j,hj,h4,rfl⟩:=(b.cr_iff h1 h2).1 h3
  exact ⟨j,List.mem_range.2 hj,by rw [idx_at b.bi.nd h4]⟩
 ·
  rintro ⟨j,hj,e⟩
  rw [List.mem_range] at hj
  obtain ⟨rfl,rfl⟩:=Prod.mk.inj e
  obtain ⟨u,hu1,hu⟩:=b.pos (c:=B j) (by have:=(b.bi.eo j hj).2.2.2.1; omega)
  rw [idx_at b.bi.nd hu]
  exact ⟨by omega,by omega,(b.cr_iff (by omega) (by omega)).2 ⟨j,hj,hu,rfl⟩⟩
