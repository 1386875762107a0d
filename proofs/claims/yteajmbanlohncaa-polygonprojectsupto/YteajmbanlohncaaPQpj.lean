import Derived.Test.YteajmbanlohncaaPQsph
import Derived.Test.YteajmbanlohncaaPQlaw1
set_option linter.unusedVariables false
set_option linter.unusedSimpArgs false
namespace Go.Proofs.Yteajmbanlohncaa
open Ev
namespace Pg
def Ch {β α:Type} (In Out:β→α):α→List β→α→Prop
 | x,[],y=>x=y
 | x,v::l,y=>x=In v∧Ch In Out (Out v) l y
section
variable {β α : Type} {In Out : β → α}
theorem Ch.app: ∀{l1 l2:List β} {x y z:α},Ch In Out x l1 y→Ch In Out y l2 z→Ch In Out x (l1++l2) z
 | [],_,x,y,z,h1,h2=>by
  have e:x=y:=h1
  rw [e]; exact h2
 | v::l,l2,x,y,z,h1,h2=>⟨h1.1,Ch.app h1.2 h2⟩
theorem Ch.split: ∀{l1 l2:List β} {x z:α},Ch In Out x (l1++l2) z→∃y,Ch In Out x l1 y∧Ch In Out y l2 z
 | [],l2,x,z,h=>⟨x,rfl,h⟩
 | v::l,l2,x,z,h=>by
  obtain ⟨y,h1,h2⟩:=Ch.split (l1:=l) h.2
  exact ⟨y,⟨h.1,h1⟩,h2⟩
theorem Ch.map {γ:Type} {f:γ→β}: ∀{l:List γ} {x y:α},Ch In Out x (l.map f) y↔Ch (fun r=>In (f r)) (fun r=>Out (f r)) x l y
 | [],x,y=>Iff.rfl
 | v::l,x,y=>and_congr Iff.rfl Ch.map
theorem Ch.next: ∀{l:List β} {x y:α},Ch In Out x l y→∀k u v,l[k]? =some u→l[k+1]? =some v→Out u=In v
 | [],x,y,h,k,u,v,h1,h2=>by simp at h1
 | [a],x,y,h,k,u,v,h1,h2=>by simp at h2
 | a::b::l,x,y,h,k,u,v,h1,h2=>by
  cases k with
  | zero=>
   simp at h1 h2
   subst h1 h2
   exact h.2.1
  | succ k=>exact Ch.next (l:=b::l) h.2 k u v (by simpa using h1) (by simpa using h2)
theorem Ch.first: ∀{l:List β} {x y:α},Ch In Out x l y→∀u,l[0]? =some u→x=In u
 | [],x,y,h,u,h1=>by simp at h1
 | a::l,x,y,h,u,h1=>by simp at h1; subst h1; exact h.1
theorem Ch.last: ∀{l:List β} {x y:α},Ch In Out x l y→∀u,l[l.length-1]? =some u→Out u=y
 | [],x,y,h,u,h1=>by simp at h1
 | [a],x,y,h,u,h1=>by
  simp at h1; subst h1
  exact h.2
 | a::b::l,x,y,h,u,h1=>Ch.last (l:=b::l) h.2 u (by simpa using h1)
theorem Ch.ring {l:List β} {x:α} (h:Ch In Out x l x) {k:Nat} (hk:k<l.length) {u v:β} (hu:l[k]? =some u) (hv:l[(k+1)%l.length]? =some v):Out u=In v:=by
 rcases Nat.lt_or_ge (k+1) l.length with q | q
 ·
  rw [Nat.mod_eq_of_lt q] at hv
  exact h.next k u v hu hv
 ·
  have:k=l.length-1:=by omega
  rw [show k+1=l.length by omega,Nat.mod_self] at hv
  rw [this] at hu
  exact (h.last u hu).trans (h.first v hv)
theorem Ch.of_next: ∀{l:List β} {x y:α},l≠[]→(∀u,l[0]? =some u→x=In u)→(∀k u v,l[k]? =some u→l[k+1]? =some v→Out u=In v)→(∀u,l[l.length-1]? =some u→Out u=y)→Ch In Out x l y
 | [],x,y,h,_,_,_=>absurd rfl h
 | [a],x,y,h,h1,h2,h3=>⟨h1 a rfl,h3 a rfl⟩
 | a::b::l,x,y,h,h1,h2,h3=>by
  refine ⟨h1 a rfl,Ch.of_next (l:=b::l) (by simp) (fun u hu=>h2 0 a u rfl (by simpa using hu)) (fun k u v hu hv=>h2 (k+1) u v (by simpa using hu) (by simpa using hv)) (fun u hu=>h3 u ?_)⟩
  simpa using hu
theorem Ch.of_ring {l:List β} (hl:l≠[]) (h: ∀k u v,k<l.length→l[k]? =some u→l[(k+1)%l.length]? =some v→Out u=In v): ∃x,Ch In Out x l x:=by
 have hp:0<l.length:=List.length_pos_iff.2 hl
 refine ⟨In l[0],Ch.of_next hl (fun u hu=>?_) (fun k u v hu hv=>?_) (fun u hu=>?_)⟩
 ·
  rw [gE hp] at hu
  rw [Option.some.inj hu]
 ·
  have hk:=(List.getElem?_eq_some_iff.1 hv).1
  exact h k u v (by omega) hu (by rw [Nat.mod_eq_of_lt hk]; exact hv)
 · exact h (l.length-1) u _ (by omega) hu (by rw [show l.length-1+1=l.length by omega,Nat.mod_self]; exact gE hp)
theorem Ch.vals {P:Nat→List β}: ∀{v:List Nat} {x z:α},v.Nodup→v≠[]→Ch In Out x (v.flatMap P) z→∃a:Nat→α,(∀c,v[0]? =some c→a c=x)∧(∀k c d,v[k]? =some c→v[k+1]? =some d→Ch In Out (a c) (P c) (a d))∧(∀c,v[v.length-1]? =some c→Ch In Out (a c) (P c) z)
 | [],x,z,_,h,_=>absurd rfl h
 | [c],x,z,_,_,h=>by
  rw [List.flatMap_cons,List.flatMap_nil,List.append_nil] at h
  refine ⟨fun _=>x,fun _ _=>rfl,fun k c d _ h2=>by simp at h2,fun d hd=>?_⟩
  simp at hd; subst hd; exact h
 | c::d::v,x,z,hn,_,h=>by
  rw [List.flatMap_cons] at h
  obtain ⟨y,h1,h2⟩:=Ch.split h
  obtain ⟨hc,hn'⟩:=List.nodup_cons.1 hn
  obtain ⟨a,a1,a2,a3⟩:=Ch.vals hn' (by simp) h2
  have hne: ∀k e,(d::v)[k]? =some e→e≠c:=fun k e he q=>hc (q▸List.mem_of_getElem? he)
  refine ⟨fun e=>if e=c then x else a e,fun e he=>?_,fun k e f he hf=>?_,fun e he=>?_⟩
  · simp at he; subst he; exact if_pos rfl
  ·
   cases k with
   | zero=>
    simp at he hf
    subst he hf
    dsimp only
    rw [if_pos rfl,if_neg (hne 0 d rfl),a1 d rfl]
    exact h1
   | succ k=>
    rw [List.getElem?_cons_succ] at he hf
    dsimp only
    rw [if_neg (hne _ _ he),if_neg (hne _ _ hf)]
    exact a2 k e f he hf
  ·
   have he':(d::v)[(d::v).length-1]? =some e:=by simpa using he
   dsimp only
   rw [if_neg (hne _ _ he')]
   exact a3 e he'
end
section
variable {β α : Type} {In Out In' Out' : β → α}
end
def Cyc (nx:Nat→Nat) (v:List Nat):Prop:=v≠[]∧∀i,i<v.length→v[(i+1)%v.length]? =(v[i]?).map nx
theorem Ch.flat {β α:Type} {In Out:β→α} {P:Nat→List β} {A:Nat→α}: ∀{v:List Nat} {z:α},v≠[]→(∀k c d,v[k]? =some c→v[k+1]? =some d→Ch In Out (A c) (P c) (A d))→(∀c,v[v.length-1]? =some c→Ch In Out (A c) (P c) z)→∀c,v[0]? =some c→Ch In Out (A c) (v.flatMap P) z
 | [],z,h,_,_=>absurd rfl h
 | [a],z,_,_,h2=>fun c hc=>by
  simp at hc; subst hc
  rw [List.flatMap_cons,List.flatMap_nil,List.append_nil]
  exact h2 a rfl
 | a::b::v,z,_,h1,h2=>fun c hc=>by
  simp at hc; subst hc
  rw [List.flatMap_cons]
  refine Ch.app (h1 0 a b rfl rfl) (Ch.flat (v:=b::v) (by simp) (fun k c d hc hd=>h1 (k+1) c d (by simpa using hc) (by simpa using hd)) (fun c hc=>h2 c ?_) b rfl)
  simpa using hc
theorem flatMap_nodup {β:Type} {P:Nat→List β}: ∀{v:List Nat},v.Nodup→(∀c∈v,(P c).Nodup)→(∀c∈v,∀d∈v,∀u,u∈P c→u∈P d→c=d)→(v.flatMap P).Nodup
 | [],_,_,_=>List.nodup_nil
 | c::v,h1,h2,h3=>by
  obtain ⟨hc,hv⟩:=List.nodup_cons.1 h1
  rw [List.flatMap_cons,List.nodup_append]
  refine ⟨h2 c (by simp),flatMap_nodup hv (fun d hd=>h2 d (by simp [hd])) (fun a ha b hb u=>h3 a (by simp [ha]) b (by simp [hb]) u),fun a ha b hb e=>?_⟩
  subst e
  obtain ⟨d,hd,hu⟩:=List.mem_flatMap.1 hb
  exact hc (h3 c (by simp) d (by simp [hd]) a ha hu▸hd)
theorem len_of_same {α:Type} [DecidableEq α] {l1 l2:List α} (h1:l1.Nodup) (h2:l2.Nodup) (h: ∀a,a∈l1↔a∈l2):l1.length=l2.length:=
 Nat.le_antisymm (sub_len h1 fun a ha=>(h a).1 ha) (sub_len h2 fun a ha=>(h a).2 ha)
theorem ring_at {nx:Nat→Nat} {v:List Nat} (hv:Cyc nx v) {k c:Nat} (h:v[k]? =some c):v[(k+1)%v.length]? =some (nx c):=by
 have hk:=(List.getElem?_eq_some_iff.1 h).1
 rw [hv.2 k hk,h]; rfl
theorem ring_ch {β α:Type} {In Out:β→α} {P:Nat→List β} {nx:Nat→Nat} {v:List Nat} (hv:Cyc nx v) {A:Nat→α} (h: ∀c∈v,Ch In Out (A c) (P c) (A (nx c))): ∃x,Ch In Out x (v.flatMap P) x:=by
 have hp:0<v.length:=List.length_pos_iff.2 hv.1
 obtain ⟨c,hc⟩: ∃c,v[0]? =some c:=⟨_,gE hp⟩
 refine ⟨A c,Ch.flat hv.1 (fun k c d h1 h2=>?_) (fun d hd=>?_) c hc⟩
 ·
  have hk:=(List.getElem?_eq_some_iff.1 h2).1
  have h3:=ring_at hv h1
  rw [Nat.mod_eq_of_lt hk,h2] at h3
  rw [Option.some.inj h3]
  exact h c (List.mem_of_getElem? h1)
 ·
  have h3:=ring_at hv hd
  rw [show v.length-1+1=v.length by omega,Nat.mod_self,hc] at h3
  rw [Option.some.inj h3]
  exact h d (List.mem_of_getElem? hd)
theorem ring_vals {β α:Type} {In Out:β→α} {P:Nat→List β} {nx:Nat→Nat} {v:List Nat} (hv:Cyc nx v) (hn:v.Nodup) {x:α} (h:Ch In Out x (v.flatMap P) x): ∃a:Nat→α,∀c∈v,Ch In Out (a c) (P c) (a (nx c)):=by
 obtain ⟨a,a1,a2,a3⟩:=Ch.vals hn hv.1 h
 have hp:0<v.length:=List.length_pos_iff.2 hv.1
 refine ⟨a,fun c hc=>?_⟩
 obtain ⟨k,hk,e⟩:=List.getElem_of_mem hc
 have hc':v[k]? =some c:=by rw [gE hk,e]
 have h3:=ring_at hv hc'
 rcases Nat.lt_or_ge (k+1) v.length with q | q
 ·
  rw [Nat.mod_eq_of_lt q] at h3
  exact a2 k c _ hc' h3
 ·
  have:k=v.length-1:=by omega
  rw [show k+1=v.length by omega,Nat.mod_self] at h3
  rw [this] at hc'
  rw [a1 _ h3]
  exact a3 c hc'
theorem rings_vals {β α:Type} [Inhabited α] {In Out:β→α} {P:Nat→List β} {nx:Nat→Nat}: ∀{vs:List (List Nat)},vs.flatten.Nodup→(∀v∈vs,Cyc nx v)→(∀v∈vs,∃x,Ch In Out x (v.flatMap P) x)→∃a:Nat→α,∀c∈vs.flatten,Ch In Out (a c) (P c) (a (nx c))
 | [],_,_,_=>⟨fun _=>default,fun c hc=>absurd hc (by simp)⟩
 | v::vs,hn,hc,h=>by
  rw [List.flatten_cons,List.nodup_append] at hn
  obtain ⟨n1,n2,n3⟩:=hn
  obtain ⟨x,hx⟩:=h v (by simp)
  have hv:=hc v (by simp)
  obtain ⟨a1,h1⟩:=ring_vals hv n1 hx
  obtain ⟨a2,h2⟩:=rings_vals (vs:=vs) n2 (fun u hu=>hc u (by simp [hu])) (fun u hu=>h u (by simp [hu]))
  have closed: ∀u,Cyc nx u→∀c∈u,nx c∈u:=fun u hu c hcu=>by
   obtain ⟨k,hk,e⟩:=List.getElem_of_mem hcu
   exact List.mem_of_getElem? (ring_at hu (show u[k]? =some c by rw [gE hk,e]))
  refine ⟨fun c=>if c∈v then a1 c else a2 c,fun c hcm=>?_⟩
  rw [List.flatten_cons] at hcm
  by_cases hcv:c∈v
  ·
   dsimp only
   rw [if_pos hcv,if_pos (closed v hv c hcv)]
   exact h1 c hcv
  ·
   have hcf:=(List.mem_append.1 hcm).resolve_left hcv
   obtain ⟨u,hu,hcu⟩:=List.mem_flatten.1 hcf
   have hnx:nx c∉v:=fun q=>n3 _ q _ (List.mem_flatten.2 ⟨u,hu,closed u (hc u (by simp [hu])) c hcu⟩) rfl
   dsimp only
   rw [if_neg hcv,if_neg hnx]
   exact h2 c hcf
theorem cyc_pred {nx:Nat→Nat} {v:List Nat} (hv:Cyc nx v) {c:Nat} (hc:c∈v): ∃d∈v,nx d=c:=by
 obtain ⟨k,hk,e⟩:=List.getElem_of_mem hc
 have hp:0<v.length:=by omega
 have hl:(k+(v.length-1))%v.length<v.length:=Nat.mod_lt _ hp
 have h3:=ring_at hv (gE hl)
 rw [Nat.mod_add_mod,show k+(v.length-1)+1=k+v.length by omega,Nat.add_mod_right,Nat.mod_eq_of_lt hk,gE hk,e] at h3
 exact ⟨_,List.getElem_mem hl,(Option.some.inj h3).symm⟩
theorem flatMapC {α β:Type} {f g:α→List β}: ∀{l:List α},(∀a∈l,f a=g a)→l.flatMap f=l.flatMap g
 | [],_=>rfl
 | a::l,h=>by rw [List.flatMap_cons,List.flatMap_cons,h a (by simp),flatMapC fun b hb=>h b (by simp [hb])]
def csR (part:Nat→List Vis) (vs:List (List Nat)):List (List Vis):=(vs.map fun v=>v.flatMap part).filter fun w=>!w.isEmpty
def loR (part:Nat→List Vis) (vs:List (List Nat)):Int:=(((vs.map fun v=>v.flatMap part).filter fun w=>w.isEmpty).length:Int)
theorem csR_flatten (part:Nat→List Vis) (vs:List (List Nat)):(csR part vs).flatten=vs.flatten.flatMap part:=by
 unfold csR
 induction vs with
 | nil=>rfl
 | cons v vs ih=>
  rw [List.map_cons,List.filter_cons,List.flatten_cons,List.flatMap_append,←ih]
  by_cases h:v.flatMap part=[]
  · rw [if_neg (by simp only [Bool.not_eq_true',List.isEmpty_eq_false_iff]; exact fun q=>q h),h,List.nil_append]
  · rw [if_pos (by simp only [Bool.not_eq_true',List.isEmpty_eq_false_iff]; exact h),List.flatten_cons]
theorem csR_lo (part:Nat→List Vis) (vs:List (List Nat)):((csR part vs).length:Int)+loR part vs=(vs.length:Int):=by
 unfold csR loR
 induction vs with
 | nil=>rfl
 | cons v vs ih=>
  rw [List.map_cons,List.filter_cons,List.filter_cons,List.length_cons]
  by_cases h:v.flatMap part=[]
  ·
   rw [if_neg (by simp only [Bool.not_eq_true',List.isEmpty_eq_false_iff]; exact fun q=>q h),if_pos (by simp only [List.isEmpty_iff]; exact h),List.length_cons]
   omega
  ·
   rw [if_pos (by simp only [Bool.not_eq_true',List.isEmpty_eq_false_iff]; exact h),if_neg (by simp only [List.isEmpty_iff]; exact h),List.length_cons]
   omega
theorem csR_snoc (part:Nat→List Vis) (vs:List (List Nat)) (v:List Nat):csR part (vs++[v])=if v.flatMap part=[] then csR part vs else csR part vs++[v.flatMap part]:=by
 unfold csR
 rw [List.map_append,List.filter_append]
 by_cases h:v.flatMap part=[]
 ·
  rw [if_pos h]
  simp [h]
 ·
  rw [if_neg h]
  congr 1
  rw [List.map_cons,List.map_nil,List.filter_cons,if_pos (by simp only [Bool.not_eq_true',List.isEmpty_eq_false_iff]; exact h)]
  rfl
theorem csR_congr {part part':Nat→List Vis} {vs:List (List Nat)} (h: ∀c∈vs.flatten,part c=part' c):csR part vs=csR part' vs:=by
 unfold csR
 congr 1
 refine List.map_congr_left fun v hv=>?_
 refine flatMapC fun c hc=>h c (List.mem_flatten.2 ⟨v,hv,hc⟩)
theorem loR_snoc (part:Nat→List Vis) (vs:List (List Nat)) (v:List Nat):loR part (vs++[v])=if v.flatMap part=[] then loR part vs+1 else loR part vs:=by
 unfold loR
 rw [List.map_append,List.filter_append]
 by_cases h:v.flatMap part=[]
 ·
  rw [if_pos h]
  simp [h]
 ·
  rw [if_neg h,List.map_cons,List.map_nil,List.filter_cons,if_neg (by simp only [List.isEmpty_iff]; exact h)]
  simp
def ringOf (s m:Nat):List Nat:=(List.range m).map (s+ ·)
def vsL:Nat→List (List Pt)→List (List Nat)
 | _,[]=>[]
 | s,p::l=>ringOf s p.length::vsL (s+p.length) l
theorem vsL_snoc: ∀(s:Nat) (l:List (List Pt)) (p:List Pt),vsL s (l++[p])=vsL s l++[ringOf (s+sumlen l) p.length]
 | s,[],p=>by simp [vsL,sumlen]
 | s,q::l,p=>by
  have:=vsL_snoc (s+q.length) l p
  have e:s+sumlen (q::l)=s+q.length+sumlen l:=by unfold sumlen; rw [List.map_cons,List.sum_cons]; omega
  rw [List.cons_append,vsL,vsL,this,e]
  rfl
theorem vsL_len: ∀(s:Nat) (l:List (List Pt)),(vsL s l).length=l.length
 | _,[]=>rfl
 | s,p::l=>by rw [vsL,List.length_cons,List.length_cons,vsL_len]
theorem vsL_flat: ∀(s:Nat) (l:List (List Pt)),(vsL s l).flatten=ringOf s (sumlen l)
 | s,[]=>rfl
 | s,p::l=>by
  rw [vsL,List.flatten_cons,vsL_flat]
  unfold ringOf sumlen
  rw [List.map_cons,List.sum_cons,List.range_add,List.map_append,List.map_map]
  congr 1
  refine List.map_congr_left fun k _=>?_
  show s+p.length+k=s+(p.length+k)
  omega
abbrev Psg:=Nat×(Int×Bool)
def kq (q:Psg):Int×Int:=kv (q.1:Int) q.2.1
def fstep (F:List Psg) (q:Psg):List Psg:=if kq q∈F.map kq then F else F++[q]
def firsts (Q:List Psg):List Psg:=Q.foldl fstep []
def mkM (F:List Psg):List ((Int×Int)×Int):=F.zipIdx.map fun q=>(kq q.1,(q.2:Int))
def sgs (es:List Ed) (F:List Psg):List Int:=F.map fun q=>sgX es q.1 q.2
def vn (F:List Psg) (i:Nat) (x:Int×Bool):Vis:=((((F.map kq).idxOf (kv i x.1):Nat):Int),x.2)
theorem mget_snoc (k k':Int×Int) (v:Int): ∀m:List ((Int×Int)×Int),mget (m++[(k',v)]) k=match mget m k with | some w=>some w | none=>if k=k' then some v else none
 | []=>rfl
 | p::m=>by
  rw [List.cons_append]
  unfold mget
  by_cases h:k=p.1
  · rw [if_pos h,if_pos h]
  ·
   rw [if_neg h,if_neg h]
   exact mget_snoc k k' v m
theorem mkM_snoc (F:List Psg) (q:Psg):mkM (F++[q])=mkM F++[(kq q,(F.length:Int))]:=by
 unfold mkM
 rw [List.zipIdx_append,List.map_append]
 simp
theorem mkM_get (k:Int×Int) (F:List Psg):mget (mkM F) k=if k∈F.map kq then some (((F.map kq).idxOf k:Nat):Int) else none:=by
 have key: ∀n (F:List Psg),F.length=n→mget (mkM F) k=if k∈F.map kq then some (((F.map kq).idxOf k:Nat):Int) else none:=by
  intro n
  induction n with
  | zero=>
   intro F hF
   obtain rfl:=List.eq_nil_of_length_eq_zero hF
   rfl
  | succ n ih=>
   intro F hF
   obtain ⟨G,q,rfl⟩: ∃G q,F=G++[q]:=⟨F.dropLast,F.getLast (fun h=>by rw [h] at hF; cases hF),(List.dropLast_concat_getLast _).symm⟩
   rw [mkM_snoc,mget_snoc,ih G (by rw [List.length_append,List.length_singleton] at hF; omega),List.map_append]
   by_cases h:k∈G.map kq
   · rw [if_pos h,if_pos (List.mem_append_left _ h),List.idxOf_append,if_pos h]
   ·
    rw [if_neg h]
    dsimp only
    by_cases h2:k=kq q
    ·
     rw [if_pos h2,if_pos (List.mem_append_right _ (by simp [h2])),List.idxOf_append,if_neg h]
     simp [h2]
    ·
     rw [if_neg h2,if_neg (fun h3=>by
      rcases List.mem_append.1 h3 with h3 | h3
      · exact h h3
      · simp at h3; exact h2 h3)]
 exact key _ F rfl
theorem fstep_mem (F:List Psg) (q:Psg):kq q∈(fstep F q).map kq:=by
 unfold fstep
 split
 · assumption
 · simp
theorem fstep_pre (F:List Psg) (q:Psg):F <+: fstep F q:=by
 unfold fstep
 split
 · exact List.prefix_refl _
 · exact List.prefix_append _ _
theorem fold_pre (F:List Psg): ∀(Q:List Psg) (F:List Psg),F <+: Q.foldl fstep F
 | [],F=>List.prefix_refl _
 | q::Q,F=>List.IsPrefix.trans (fstep_pre F q) (fold_pre F Q _)
theorem vn_pre {F F':List Psg} (h:F <+: F') {i:Nat} {x:Int×Bool} (hx:kv i x.1∈F.map kq):vn F' i x=vn F i x:=by
 obtain ⟨e,rfl⟩:=h
 unfold vn
 rw [List.map_append,List.idxOf_append,if_pos hx]
theorem fold_mem: ∀(Q:List Psg) (F:List Psg),∀q∈Q,kq q∈(Q.foldl fstep F).map kq
 | [],F,q,h=>by cases h
 | p::Q,F,q,h=>by
  rw [List.foldl_cons]
  rcases List.mem_cons.1 h with rfl | h
  ·
   obtain ⟨e,he⟩:=fold_pre F Q (fstep F q)
   rw [←he,List.map_append]
   exact List.mem_append_left _ (fstep_mem F q)
  · exact fold_mem Q _ q h
theorem fold_sub: ∀(Q:List Psg) (F:List Psg),∀q∈Q.foldl fstep F,q∈F∨q∈Q
 | [],F,q,h=>.inl h
 | p::Q,F,q,h=>by
  rw [List.foldl_cons] at h
  rcases fold_sub Q _ q h with h | h
  ·
   unfold fstep at h
   split at h
   · exact .inl h
   ·
    rcases List.mem_append.1 h with h | h
    · exact .inl h
    · rw [List.mem_singleton] at h; exact .inr (by simp [h])
  · exact .inr (List.mem_cons_of_mem _ h)
theorem fold_nodup: ∀(Q:List Psg) (F:List Psg),(F.map kq).Nodup→((Q.foldl fstep F).map kq).Nodup
 | [],F,h=>h
 | p::Q,F,h=>by
  rw [List.foldl_cons]
  refine fold_nodup Q _ ?_
  unfold fstep
  split
  · exact h
  ·
   rename_i hp
   rw [List.map_append,List.nodup_append]
   refine ⟨h,by simp,fun a ha b hb e=>?_⟩
   simp at hb
   subst e hb
   exact hp ha
theorem cstep_fst (es:List Ed) (i:Nat) (vis:List Vis) (F:List Psg) (x:Int×Bool):cstep es i (vis,sgs es F,mkM F) x=(vis++[vn (fstep F (i,x)) i x],sgs es (fstep F (i,x)),mkM (fstep F (i,x))):=by
 unfold cstep
 dsimp only
 rw [mkM_get]
 unfold fstep
 by_cases h:kv (i:Int) x.1∈F.map kq
 ·
  have h':kq ((i,x):Psg)∈F.map kq:=h
  rw [if_pos h,if_pos h']
  rfl
 ·
  have h': ¬kq ((i,x):Psg)∈F.map kq:=h
  rw [if_neg h,if_neg h']
  dsimp only
  rw [mkM_snoc]
  unfold sgs vn
  rw [List.map_append,List.map_append,List.idxOf_append,if_neg h,List.length_map]
  have:(List.map kq [((i,x):Psg)]).idxOf (kv (i:Int) x.1)=0:=by
   show ([kv (i:Int) x.1]).idxOf (kv (i:Int) x.1)=0
   simp
  rw [this,List.length_map,Nat.zero_add]
  rfl
theorem crow_fst (es:List Ed) (i:Nat): ∀(row:List (Int×Bool)) (vis:List Vis) (F:List Psg),crow es i (vis,sgs es F,mkM F) row=(vis++row.map (vn ((row.map (Prod.mk i)).foldl fstep F) i),sgs es ((row.map (Prod.mk i)).foldl fstep F),mkM ((row.map (Prod.mk i)).foldl fstep F))
 | [],vis,F=>by
  unfold crow
  simp
 | x::r,vis,F=>by
  have ih:=crow_fst es i r (vis++[vn (fstep F (i,x)) i x]) (fstep F (i,x))
  unfold crow at ih⊢
  rw [List.foldl_cons,cstep_fst,ih,List.map_cons,List.map_cons,List.foldl_cons,List.append_assoc]
  have hv:=vn_pre (i:=i) (x:=x) (fold_pre [] (r.map (Prod.mk i)) (fstep F (i,x))) (fstep_mem F (i,x))
  rw [hv]
  rfl
def pas (P:Nat→List (Int×Bool)) (v:List Nat):List Psg:=v.flatMap fun j=>(P j).map (Prod.mk j)
def prt' (P:Nat→List (Int×Bool)) (F:List Psg) (j:Nat):List Vis:=(P j).map (vn F j)
theorem pas_app (P:Nat→List (Int×Bool)) (v w:List Nat):pas P (v++w)=pas P v++pas P w:=by unfold pas; rw [List.flatMap_append]
theorem mem_pas {P:Nat→List (Int×Bool)} {v:List Nat} {q:Psg}:q∈pas P v↔q.1∈v∧q.2∈P q.1:=by
 unfold pas
 rw [List.mem_flatMap]
 constructor
 ·
  rintro ⟨j,hj,h⟩
  obtain ⟨x,hx,rfl⟩:=List.mem_map.1 h
  exact ⟨hj,hx⟩
 ·
  rintro ⟨h1,h2⟩
  exact ⟨q.1,h1,List.mem_map.2 ⟨q.2,h2,rfl⟩⟩
theorem prt_pre {P:Nat→List (Int×Bool)} {F F':List Psg} (h:F <+: F') {j:Nat} (hj: ∀x∈P j,kv j x.1∈F.map kq):prt' P F' j=prt' P F j:=by
 unfold prt'
 exact List.map_congr_left fun x hx=>vn_pre h (hj x hx)
theorem ringOf_succ (s m:Nat):ringOf s (m+1)=ringOf s m++[s+m]:=by
 unfold ringOf
 rw [List.range_succ,List.map_append]; rfl
theorem cpoly_fst (es:List Ed) (P:Nat→List (Int×Bool)) (s:Nat) (vis:List Vis) (F:List Psg): ∀m,cpoly es P s m (vis,sgs es F,mkM F)=(vis++(ringOf s m).flatMap (prt' P ((pas P (ringOf s m)).foldl fstep F)),sgs es ((pas P (ringOf s m)).foldl fstep F),mkM ((pas P (ringOf s m)).foldl fstep F))
 | 0=>by
  unfold cpoly ringOf pas
  simp
 | m+1=>by
  rw [cpoly_succ,cpoly_fst es P s vis F m,crow_fst,ringOf_succ,pas_app,List.foldl_append,List.flatMap_append]
  have e:pas P [s+m]=(P (s+m)).map (Prod.mk (s+m)):=by unfold pas; simp
  rw [e]
  generalize hG:(pas P (ringOf s m)).foldl fstep F=G
  have hpre:=fold_pre [] ((P (s+m)).map (Prod.mk (s+m))) G
  have hc:(ringOf s m).flatMap (prt' P (((P (s+m)).map (Prod.mk (s+m))).foldl fstep G))=(ringOf s m).flatMap (prt' P G):=by
   refine flatMapC fun j hj=>prt_pre hpre fun x hx=>?_
   have:=fold_mem (pas P (ringOf s m)) F (j,x) (mem_pas.2 ⟨hj,hx⟩)
   rw [hG] at this
   exact this
  rw [hc,List.append_assoc]
  congr 1
  congr 1
  congr 1
  simp [prt']
def fstL (P:Nat→List (Int×Bool)) (l:List (List Pt)):List Psg:=firsts (pas P (vsL 0 l).flatten)
theorem cofold_fst (es:List Ed) (P:Nat→List (Int×Bool)): ∀(n:Nat) (l:List (List Pt)),l.length=n→
  cofold es P l=(sumlen l,csR (prt' P (fstL P l)) (vsL 0 l),sgs es (fstL P l),loR (prt' P (fstL P l)) (vsL 0 l),mkM (fstL P l)):=by
 intro n
 induction n with
 | zero=>
  intro l hl
  obtain rfl:=List.eq_nil_of_length_eq_zero hl
  rfl
 | succ n ih=>
  intro l hl
  obtain ⟨k,p,rfl⟩: ∃k p,l=k++[p]:=⟨l.dropLast,l.getLast (fun h=>by rw [h] at hl; cases hl),(List.dropLast_concat_getLast _).symm⟩
  rw [List.length_append,List.length_singleton] at hl
  rw [cofold_snoc,ih k (by omega)]
  have hF:fstL P (k++[p])=(pas P (ringOf (sumlen k) p.length)).foldl fstep (fstL P k):=by
   unfold fstL firsts
   rw [vsL_snoc,List.flatten_append,pas_app,List.foldl_append,Nat.zero_add]
   simp
  have hpre:fstL P k <+: fstL P (k++[p]):=by rw [hF]; exact fold_pre [] _ _
  have hold: ∀c∈(vsL 0 k).flatten,prt' P (fstL P (k++[p])) c=prt' P (fstL P k) c:=fun c hc=>prt_pre hpre fun x hx=>fold_mem _ [] (c,x) (mem_pas.2 ⟨hc,hx⟩)
  have hold2:loR (prt' P (fstL P (k++[p]))) (vsL 0 k)=loR (prt' P (fstL P k)) (vsL 0 k):=by
   have a:=csR_lo (prt' P (fstL P (k++[p]))) (vsL 0 k)
   have b:=csR_lo (prt' P (fstL P k)) (vsL 0 k)
   rw [csR_congr hold] at a
   omega
  unfold costep
  dsimp only
  rw [cpoly_fst,←hF,List.nil_append,vsL_snoc,Nat.zero_add,csR_snoc,loR_snoc,csR_congr hold,hold2]
  have hs:sumlen (k++[p])=sumlen k+p.length:=by unfold sumlen; simp
  rw [hs]
  dsimp only
  by_cases h:(ringOf (sumlen k) p.length).flatMap (prt' P (fstL P (k++[p])))=[]
  · rw [if_neg (by rw [h]; simp),if_neg (by rw [h]; simp),if_pos h,if_pos h]
  · rw [if_pos (List.length_pos_iff.2 h),if_pos (List.length_pos_iff.2 h),if_neg h,if_neg h]
theorem codeS_fst (es:List Ed) (P:Nat→List (Int×Bool)) (l:List (List Pt)):codeS es P l=(csR (prt' P (fstL P l)) (vsL 0 l),sgs es (fstL P l),loR (prt' P (fstL P l)) (vsL 0 l)):=by
 unfold codeS
 rw [cofold_fst es P _ l rfl]
structure Nt (N:Nat) (nx:Nat→Nat) (vs:List (List Nat)) (P:Nat→List (Int×Bool)):Prop where
 nd:vs.flatten.Nodup
 cyc: ∀v∈vs,Cyc nx v
 mem: ∀c,c∈vs.flatten↔c<N
 row: ∀i,i<N→((P i).map (·.1)).Nodup
 sym: ∀i,i<N→∀x∈P i,∃k:Nat,x.1=(k:Int)∧k<N∧k≠i∧((i:Int),!x.2)∈P k
theorem idxOf_at {α:Type} [BEq α] [LawfulBEq α] {l:List α} (hn:l.Nodup) {c:Nat} (hc:c<l.length):l.idxOf l[c]=c:=by
 have h1:=List.idxOf_lt_length_of_mem (List.getElem_mem hc)
 have h2:=List.getElem_idxOf h1
 exact (List.getElem?_inj h1 hn).1 (by rw [gE h1,h2,gE hc])
def fsN (P:Nat→List (Int×Bool)) (vs:List (List Nat)):List Psg:=firsts (pas P vs.flatten)
theorem kv_eq {a b c d:Nat}:kv (a:Int) (b:Int)=kv (c:Int) (d:Int)↔(a=c∧b=d)∨(a=d∧b=c):=by
 unfold kv
 rw [Prod.mk.injEq]
 omega
section
variable {N : Nat} {nx : Nat → Nat} {vs : List (List Nat)} {P : Nat → List (Int × Bool)} (h : Nt N nx vs P)
include h
theorem Nt.fmem {q:Psg} (hq:q∈fsN P vs):q.1<N∧q.2∈P q.1:=by
 rcases fold_sub _ [] q hq with h1 | h1
 · cases h1
 ·
  obtain ⟨h2,h3⟩:=mem_pas.1 h1
  exact ⟨(h.mem _).1 h2,h3⟩
theorem Nt.fkey {i:Nat} (hi:i<N) {x:Int×Bool} (hx:x∈P i):kv i x.1∈(fsN P vs).map kq:=fold_mem _ [] (i,x) (mem_pas.2 ⟨(h.mem i).2 hi,hx⟩)
omit h in
theorem fnodup:((fsN P vs).map kq).Nodup:=fold_nodup _ [] List.nodup_nil
theorem Nt.row_inj {i:Nat} (hi:i<N) {x y:Int×Bool} (hx:x∈P i) (hy:y∈P i) (e:x.1=y.1):x=y:=by
 have hn:=h.row i hi
 obtain ⟨a,ha,rfl⟩:=List.getElem_of_mem hx
 obtain ⟨b,hb,rfl⟩:=List.getElem_of_mem hy
 unfold List.Nodup at hn
 rw [List.pairwise_map] at hn
 have hp:=List.pairwise_iff_getElem.1 hn
 rcases Nat.lt_trichotomy a b with q | q | q
 · exact absurd e (hp a b ha hb q)
 · subst q; rfl
 · exact absurd e.symm (hp b a hb ha q)
theorem Nt.same {i j:Nat} (hi:i<N) (hj:j<N) {x y:Int×Bool} (hx:x∈P i) (hy:y∈P j) (e:kv i x.1=kv j y.1):(j=i∧y=x)∨(x.1=(j:Int)∧y=((i:Int),!x.2)):=by
 obtain ⟨k,e1,hk,hne,hs⟩:=h.sym i hi x hx
 obtain ⟨m,e2,hm,hne2,hs2⟩:=h.sym j hj y hy
 rw [e1,e2,kv_eq] at e
 rcases e with ⟨rfl,rfl⟩ | ⟨rfl,rfl⟩
 · exact .inl ⟨rfl,h.row_inj hi hy hx (e2.trans e1.symm)⟩
 · exact .inr ⟨e1,h.row_inj hk hy hs e2⟩
theorem Nt.vn_inj {i j:Nat} (hi:i<N) (hj:j<N) {x y:Int×Bool} (hx:x∈P i) (hy:y∈P j) (e:vn (fsN P vs) i x=vn (fsN P vs) j y):i=j∧x=y:=by
 unfold vn at e
 obtain ⟨e1,e2⟩:=Prod.mk.inj e
 have e3:((fsN P vs).map kq).idxOf (kv i x.1)=((fsN P vs).map kq).idxOf (kv j y.1):=by omega
 have hi':=List.getElem_idxOf (List.idxOf_lt_length_of_mem (h.fkey hi hx))
 have hj':=List.getElem_idxOf (List.idxOf_lt_length_of_mem (h.fkey hj hy))
 have hk:kv i x.1=kv j y.1:=by
  rw [←hi',←hj']
  congr 1
 rcases h.same hi hj hx hy hk with ⟨rfl,rfl⟩ | ⟨a,b⟩
 · exact ⟨rfl,rfl⟩
 ·
  rw [b] at e2
  cases hx2:x.2<;>rw [hx2] at e2<;>cases e2
theorem Nt.vn_lt {i:Nat} (hi:i<N) {x:Int×Bool} (hx:x∈P i):0≤(vn (fsN P vs) i x).1∧(vn (fsN P vs) i x).1<((fsN P vs).length:Int):=by
 have:=List.idxOf_lt_length_of_mem (h.fkey hi hx)
 rw [List.length_map] at this
 unfold vn
 dsimp only
 omega
theorem Nt.vn_at {c:Nat} (hc:c<(fsN P vs).length):(fsN P vs)[c].1<N∧(fsN P vs)[c].2∈P (fsN P vs)[c].1∧vn (fsN P vs) (fsN P vs)[c].1 (fsN P vs)[c].2=((c:Int),(fsN P vs)[c].2.2):=by
 obtain ⟨h1,h2⟩:=h.fmem (List.getElem_mem hc)
 refine ⟨h1,h2,?_⟩
 unfold vn
 have e:((fsN P vs).map kq).idxOf (kv ((fsN P vs)[c].1:Int) (fsN P vs)[c].2.1)=c:=by
  have hc':c<((fsN P vs).map kq).length:=by rw [List.length_map]; exact hc
  have:=idxOf_at (fnodup (P:=P) (vs:=vs)) hc'
  rw [List.getElem_map] at this
  exact this
 rw [e]
theorem Nt.both {c:Nat} (hc:c<(fsN P vs).length) (o:Bool): ∃i,i<N∧∃x∈P i,vn (fsN P vs) i x=((c:Int),o):=by
 obtain ⟨h1,h2,h3⟩:=h.vn_at hc
 by_cases ho:(fsN P vs)[c].2.2=o
 · exact ⟨_,h1,_,h2,by rw [h3,ho]⟩
 ·
  obtain ⟨k,e1,hk,hne,hs⟩:=h.sym _ h1 _ h2
  refine ⟨k,hk,_,hs,?_⟩
  have e2:(vn (fsN P vs) k (((fsN P vs)[c].1:Int),!(fsN P vs)[c].2.2)).1=(vn (fsN P vs) (fsN P vs)[c].1 (fsN P vs)[c].2).1:=by
   unfold vn
   dsimp only
   rw [e1,show kv (k:Int) ((fsN P vs)[c].1:Int)=kv ((fsN P vs)[c].1:Int) (k:Int) from kv_eq.2 (.inr ⟨rfl,rfl⟩)]
  rw [h3] at e2
  refine Prod.ext e2 ?_
  show (!(fsN P vs)[c].2.2)=o
  revert ho
  cases (fsN P vs)[c].2.2<;>cases o<;>simp
theorem Nt.vis_mem {u:Vis}:u∈vs.flatten.flatMap (prt' P (fsN P vs))↔∃i,i<N∧∃x∈P i,vn (fsN P vs) i x=u:=by
 rw [List.mem_flatMap]
 constructor
 ·
  rintro ⟨i,hi,hu⟩
  obtain ⟨x,hx,e⟩:=List.mem_map.1 hu
  exact ⟨i,(h.mem i).1 hi,x,hx,e⟩
 ·
  rintro ⟨i,hi,x,hx,e⟩
  exact ⟨i,(h.mem i).2 hi,List.mem_map.2 ⟨x,hx,e⟩⟩
theorem Nt.vis_all {u:Vis}:u∈vs.flatten.flatMap (prt' P (fsN P vs))↔0≤u.1∧u.1<((fsN P vs).length:Int):=by
 rw [h.vis_mem]
 constructor
 ·
  rintro ⟨i,hi,x,hx,rfl⟩
  exact h.vn_lt hi hx
 ·
  rintro ⟨h1,h2⟩
  obtain ⟨c,hc⟩: ∃c:Nat,u.1=(c:Int):=⟨u.1.toNat,by omega⟩
  obtain ⟨i,hi,x,hx,e⟩:=h.both (c:=c) (by omega) u.2
  exact ⟨i,hi,x,hx,by rw [e,←hc]⟩
theorem Nt.vis_nodup:(vs.flatten.flatMap (prt' P (fsN P vs))).Nodup:=by
 refine flatMap_nodup h.nd (fun c hc=>?_) fun c hc d hd u h1 h2=>?_
 ·
  have hcn:=(h.mem c).1 hc
  refine nodup_map ?_ fun x hx y hy e=>(h.vn_inj hcn hcn hx hy e).2
  have:=h.row c hcn
  unfold List.Nodup at this⊢
  rw [List.pairwise_map] at this
  exact this.imp fun hab e=>hab (by rw [e])
 ·
  obtain ⟨x,hx,rfl⟩:=List.mem_map.1 h1
  obtain ⟨y,hy,e⟩:=List.mem_map.1 h2
  exact (h.vn_inj ((h.mem d).1 hd) ((h.mem c).1 hc) hy hx e).1.symm
theorem Nt.vis_len:(vs.flatten.flatMap (prt' P (fsN P vs))).length=2*(fsN P vs).length:=by
 have hV:(((List.range (fsN P vs).length).map fun c=>(((c:Nat):Int),true))++((List.range (fsN P vs).length).map fun c=>(((c:Nat):Int),false))).Nodup:=by
  rw [List.nodup_append]
  refine ⟨nodup_map List.nodup_range fun a _ b _ e=>by have:=(Prod.mk.inj e).1; omega,nodup_map List.nodup_range fun a _ b _ e=>by have:=(Prod.mk.inj e).1; omega,fun a ha b hb e=>?_⟩
  obtain ⟨_,_,e1⟩:=List.mem_map.1 ha
  obtain ⟨_,_,e2⟩:=List.mem_map.1 hb
  rw [←e1,←e2] at e
  cases (Prod.mk.inj e).2
 have:=len_of_same h.vis_nodup hV fun u=>by
  rw [h.vis_all,List.mem_append,List.mem_map,List.mem_map]
  constructor
  ·
   rintro ⟨h1,h2⟩
   obtain ⟨z,o⟩:=u
   dsimp only at h1 h2
   cases o with
   | true=>exact .inl ⟨z.toNat,List.mem_range.2 (by omega),by rw [Int.toNat_of_nonneg h1]⟩
   | false=>exact .inr ⟨z.toNat,List.mem_range.2 (by omega),by rw [Int.toNat_of_nonneg h1]⟩
  · rintro (⟨c,hc,rfl⟩ | ⟨c,hc,rfl⟩)<;>(have:=List.mem_range.1 hc; dsimp only; omega)
 rw [this,List.length_append,List.length_map,List.length_map,List.length_range]
 omega
theorem Nt.gv {sx:Psg→Int} (hsx: ∀q,sx q=1∨sx q=-1) (h64:(fsN P vs).length≤64) (hv:vs.length≤64):GV (csR (prt' P (fsN P vs)) vs) ((fsN P vs).map sx) (loR (prt' P (fsN P vs)) vs):=by
 have hlo:=csR_lo (prt' P (fsN P vs)) vs
 have hlo0:0≤loR (prt' P (fsN P vs)) vs:=by unfold loR; omega
 refine ⟨by rw [List.length_map]; exact h64,hlo0,by omega,fun s hs=>?_,fun c hc=>?_,fun v hv=>?_,?_,?_⟩
 ·
  obtain ⟨q,_,rfl⟩:=List.mem_map.1 hs
  exact hsx q
 ·
  unfold csR at hc
  have:=(List.mem_filter.1 hc).2
  intro e
  subst e
  cases this
 ·
  rw [csR_flatten,h.vis_all] at hv
  rw [List.length_map]; exact hv
 · rw [csR_flatten]; exact h.vis_nodup
 · rw [csR_flatten,h.vis_len,List.length_map]
end
theorem pairR_of {sg:List Int} {part:Nat→List Vis} {vs:List (List Nat)} {a b:Nat} (h:(a,b)∈allP sg (csR part vs)): ∃v∈vs,∃k u w,k<(v.flatMap part).length∧(v.flatMap part)[k]? =some u∧(v.flatMap part)[(k+1)%(v.flatMap part).length]? =some w∧a=outH sg u∧b=inH sg w:=by
 unfold allP csR at h
 obtain ⟨w,hw,hp⟩:=List.mem_flatMap.1 h
 obtain ⟨v,hv,rfl⟩:=List.mem_map.1 (List.mem_filter.1 hw).1
 unfold prs at hp
 obtain ⟨k,hk,e⟩:=List.mem_map.1 hp
 rw [List.mem_range] at hk
 have hm:(k+1)%(v.flatMap part).length<(v.flatMap part).length:=Nat.mod_lt _ (by omega)
 refine ⟨v,hv,k,_,_,hk,gE hk,gE hm,?_⟩
 rw [getD_of' hk,getD_of' hm] at e
 exact ⟨(Prod.mk.inj e).1.symm,(Prod.mk.inj e).2.symm⟩
theorem pairR_at {sg:List Int} {part:Nat→List Vis} {vs:List (List Nat)} {v:List Nat} (hv:v∈vs) {k:Nat} {u w:Vis} (hk:k<(v.flatMap part).length) (hu:(v.flatMap part)[k]? =some u) (hw:(v.flatMap part)[(k+1)%(v.flatMap part).length]? =some w):
  (outH sg u,inH sg w)∈allP sg (csR part vs):=by
 unfold allP csR
 have hm:(k+1)%(v.flatMap part).length<(v.flatMap part).length:=Nat.mod_lt _ (by omega)
 refine List.mem_flatMap.2 ⟨v.flatMap part,List.mem_filter.2 ⟨List.mem_map.2 ⟨v,hv,rfl⟩,?_⟩,?_⟩
 ·
  simp only [Bool.not_eq_true',List.isEmpty_eq_false_iff]
  intro e
  rw [e] at hk
  exact absurd hk (by simp)
 ·
  unfold prs
  refine List.mem_map.2 ⟨k,List.mem_range.2 hk,?_⟩
  rw [getD_of' hk,getD_of' hm]
  rw [gE hk] at hu
  rw [gE hm] at hw
  rw [Option.some.inj hu,Option.some.inj hw]
section
variable {nx : Nat → Nat} {vs : List (List Nat)} {part : Nat → List Vis} {sg : List Int} {lo : Int}
theorem walkR (G:GV (csR part vs) sg lo) (nd:vs.flatten.Nodup) (cyc: ∀v∈vs,Cyc nx v):
  ∃A:Nat→Nat,∀c,c∈vs.flatten→Ch (inH sg) (fun u=>muS sg (csR part vs) (outH sg u)) (A c) (part c) (A (nx c)):=by
 refine rings_vals nd cyc fun v hv=>?_
 by_cases he:v.flatMap part=[]
 · rw [he]; exact ⟨0,rfl⟩
 ·
  refine Ch.of_ring he fun k u w hk hu hw=>?_
  exact (muS_pair G (pairR_at hv hk hu hw)).2.2.1
end
theorem surj_inj {N:Nat} {f:Nat→Nat} (hs: ∀k,k<N→∃i,i<N∧f i=k): ∀i j,i<N→j<N→f i=f j→i=j:=by
 have ex: ∀k,∃i,k<N→i<N∧f i=k:=fun k=>by
  by_cases hk:k<N
  ·
   obtain ⟨i,hi⟩:=hs k hk
   exact ⟨i,fun _=>hi⟩
  · exact ⟨0,fun h=>absurd h hk⟩
 obtain ⟨g,hg⟩:=Classical.skolem.1 ex
 have hnd:((List.range N).map g).Nodup:=nodup_map List.nodup_range fun a ha b hb e=>by
  have h1:=(hg a (List.mem_range.1 ha)).2
  have h2:=(hg b (List.mem_range.1 hb)).2
  rw [←h1,←h2,e]
 have all: ∀i,i<N→∃a,a<N∧g a=i:=fun i hi=>by
  have:=nodup_all hnd (fun x hx=>by
   obtain ⟨a,ha,rfl⟩:=List.mem_map.1 hx
   exact (hg a (List.mem_range.1 ha)).1) (by simp) hi
  obtain ⟨a,ha,e⟩:=List.mem_map.1 this
  exact ⟨a,List.mem_range.1 ha,e⟩
 intro i j hi hj e
 obtain ⟨a,ha,rfl⟩:=all i hi
 obtain ⟨b,hb,rfl⟩:=all j hj
 rw [(hg a ha).2,(hg b hb).2] at e
 rw [e]
theorem sumlen_app (l r:List (List Pt)):sumlen (l++r)=sumlen l+sumlen r:=by unfold sumlen; rw [List.map_append,List.sum_append]
theorem sumlen_cons (p:List Pt) (l:List (List Pt)):sumlen (p::l)=p.length+sumlen l:=by unfold sumlen; rw [List.map_cons,List.sum_cons]
theorem dec_at: ∀(l:List (List Pt)) (i:Nat),i<sumlen l→∃l1 p l2 t,l=l1++p::l2∧t<p.length∧i=sumlen l1+t
 | [],i,h=>by simp [sumlen] at h
 | p::l,i,h=>by
  rw [sumlen_cons] at h
  by_cases hi:i<p.length
  · exact ⟨[],p,l,i,rfl,hi,by simp [sumlen]⟩
  ·
   obtain ⟨l1,q,l2,t,e,h1,h2⟩:=dec_at l (i-p.length) (by omega)
   exact ⟨p::l1,q,l2,t,by rw [e]; rfl,h1,by rw [sumlen_cons]; omega⟩
theorem eAt_dec {l1 l2:List (List Pt)} {p:List Pt} {t:Nat} (ht:t<p.length):eAt (edS 0 (l1++p::l2)) (sumlen l1+t)=mkE (sumlen l1) p t:=by
 have e:edS 0 (l1++p::l2)=edS 0 l1++(edRow (sumlen l1) p p.length++edS (sumlen l1+p.length) l2):=by
  rw [edS_app,Nat.zero_add]
  rfl
 unfold eAt
 rw [e]
 have h1:=edS_len 0 l1
 have h2:=edRow_len (sumlen l1) p p.length
 have h3:(edS 0 l1++(edRow (sumlen l1) p p.length++edS (sumlen l1+p.length) l2))[sumlen l1+t]? =some (mkE (sumlen l1) p t):=by
  rw [List.getElem?_append_right (by omega),h1,show sumlen l1+t-sumlen l1=t by omega,List.getElem?_append_left (by omega)]
  unfold edRow
  rw [List.getElem?_map,List.getElem?_range ht]
  rfl
 rw [List.getD_eq_getElem?_getD,h3]
 rfl
def nxE (es:List Ed) (i:Nat):Nat:=(eAt es i).2.2.2.toNat
theorem nx_dec {l1 l2:List (List Pt)} {p:List Pt} {t:Nat} (ht:t<p.length):nxE (edS 0 (l1++p::l2)) (sumlen l1+t)=sumlen l1+(t+1)%p.length:=by
 unfold nxE
 rw [eAt_dec ht]
 unfold mkE
 dsimp only
 omega
theorem vsL_mem: ∀(s:Nat) (l:List (List Pt)) (v:List Nat),v∈vsL s l→∃l1 p l2,l=l1++p::l2∧v=ringOf (s+sumlen l1) p.length
 | s,[],v,h=>by cases h
 | s,p::l,v,h=>by
  rw [vsL] at h
  rcases List.mem_cons.1 h with rfl | h
  · exact ⟨[],p,l,rfl,by simp [sumlen]⟩
  ·
   obtain ⟨l1,q,l2,e,e2⟩:=vsL_mem _ l v h
   exact ⟨p::l1,q,l2,by rw [e]; rfl,by rw [e2,sumlen_cons,Nat.add_assoc]⟩
theorem ringOf_at {s m i:Nat} (h:i<m):(ringOf s m)[i]? =some (s+i):=by
 unfold ringOf
 rw [List.getElem?_map,List.getElem?_range h]; rfl
theorem ringOf_len (s m:Nat):(ringOf s m).length=m:=by simp [ringOf]
structure Rg (es:List Ed) (vs:List (List Nat)):Prop where
 nd:vs.flatten.Nodup
 cyc: ∀v∈vs,Cyc (nxE es) v
 mem: ∀c,c∈vs.flatten↔c<es.length
 fst: ∀i,i<es.length→(eAt es i).2.2.1=(i:Int)
 lst: ∀i,i<es.length→(eAt es i).2.2.2=(nxE es i:Int)
 lt: ∀i,i<es.length→nxE es i<es.length
 jn: ∀i,i<es.length→(eAt es (nxE es i)).1=(eAt es i).2.1
theorem rg_edS {l:List (List Pt)} (h: ∀p∈l,p≠[]):Rg (edS 0 l) (vsL 0 l):=by
 have hN:(edS 0 l).length=sumlen l:=edS_len 0 l
 have hpos: ∀p∈l,0<p.length:=fun p hp=>List.length_pos_iff.2 (h p hp)
 have flat:=vsL_flat 0 l
 refine ⟨?_,fun v hv=>?_,fun c=>?_,fun i hi=>?_,fun i hi=>?_,fun i hi=>?_,fun i hi=>?_⟩
 ·
  rw [flat]
  exact nodup_map List.nodup_range fun a _ b _ e=>by omega
 ·
  obtain ⟨l1,p,l2,e,e2⟩:=vsL_mem 0 l v hv
  rw [Nat.zero_add] at e2
  have hp:=hpos p (by rw [e]; simp)
  subst e2
  refine ⟨fun q=>?_,fun i hi=>?_⟩
  ·
   have:=ringOf_len (sumlen l1) p.length
   rw [q] at this
   simp at this
   omega
  ·
   rw [ringOf_len] at hi⊢
   rw [ringOf_at hi,ringOf_at (Nat.mod_lt _ hp),Option.map_some,e,nx_dec hi]
 ·
  rw [flat,hN]
  unfold ringOf
  rw [List.mem_map]
  constructor
  ·
   rintro ⟨a,ha,rfl⟩
   have:=List.mem_range.1 ha
   show 0+a<_
   omega
  ·
   intro hc
   exact ⟨c,List.mem_range.2 hc,Nat.zero_add c⟩
 ·
  obtain ⟨l1,p,l2,t,e,ht,ei⟩:=dec_at l i (by omega)
  rw [e,ei,eAt_dec ht]
  rfl
 ·
  obtain ⟨l1,p,l2,t,e,ht,ei⟩:=dec_at l i (by omega)
  rw [e,ei,nx_dec ht,eAt_dec ht]
  rfl
 ·
  obtain ⟨l1,p,l2,t,e,ht,ei⟩:=dec_at l i (by omega)
  rw [e,ei,nx_dec ht,edS_len,sumlen_app,sumlen_cons]
  have:=Nat.mod_lt (t+1) (show 0<p.length by omega)
  omega
 ·
  obtain ⟨l1,p,l2,t,e,ht,ei⟩:=dec_at l i (by omega)
  have:=Nat.mod_lt (t+1) (show 0<p.length by omega)
  rw [e,ei,nx_dec ht,eAt_dec ht,eAt_dec this]
  rfl
section
variable {es : List Ed} {vs : List (List Nat)} (R : Rg es vs)
include R
theorem Rg.surj {k:Nat} (hk:k<es.length): ∃i,i<es.length∧nxE es i=k:=by
 obtain ⟨v,hv,hkv⟩:=List.mem_flatten.1 ((R.mem k).2 hk)
 obtain ⟨d,hd,e⟩:=cyc_pred (R.cyc v hv) hkv
 exact ⟨d,(R.mem d).1 (List.mem_flatten.2 ⟨v,hv,hd⟩),e⟩
theorem Rg.inj {i j:Nat} (hi:i<es.length) (hj:j<es.length) (e:nxE es i=nxE es j):i=j:=surj_inj (fun k hk=>R.surj hk) i j hi hj e
theorem Rg.adj {i k:Nat} (hi:i<es.length) (hk:k<es.length):Adj (eAt es i) (eAt es k)↔(k=nxE es i∨i=nxE es k):=by
 unfold Adj
 rw [R.fst i hi,R.fst k hk,R.lst i hi,R.lst k hk]
 omega
end
theorem adj_symm {e f:Ed}:Adj e f↔Adj f e:=by unfold Adj; omega
theorem psg_some {es:List Ed} {i k:Nat} {x:Int×Bool}:psg es i k=some x↔x.1=(k:Int)∧k≠i∧¬Adj (eAt es i) (eAt es k)∧(cr (eAt es i).1 (eAt es i).2.1 (eAt es k).1 (eAt es k).2.1).1=1∧x.2=(cr (eAt es i).1 (eAt es i).2.1 (eAt es k).1 (eAt es k).2.1).2:=by
 unfold psg
 by_cases h:k=i∨Adj (eAt es i) (eAt es k)
 ·
  rw [if_pos h]
  refine ⟨fun q=>(by cases q),fun q=>?_⟩
  rcases h with h | h
  · exact absurd h q.2.1
  · exact absurd h q.2.2.1
 ·
  rw [if_neg h]
  by_cases h2:(cr (eAt es i).1 (eAt es i).2.1 (eAt es k).1 (eAt es k).2.1).1=1
  ·
   rw [if_pos h2]
   constructor
   ·
    intro q
    obtain rfl:=Option.some.inj q
    exact ⟨rfl,fun e=>h (.inl e),fun e=>h (.inr e),h2,rfl⟩
   ·
    rintro ⟨a,_,_,_,b⟩
    rw [←a,←b]
  ·
   rw [if_neg h2]
   exact ⟨fun q=>(by cases q),fun q=>absurd q.2.2.2.1 h2⟩
theorem mem_ps {es:List Ed} {i m:Nat} {x:Int×Bool}:x∈ps es i m↔∃k,k<m∧psg es i k=some x:=by
 unfold ps
 rw [List.mem_filterMap]
 exact ⟨fun ⟨k,h1,h2⟩=>⟨k,List.mem_range.1 h1,h2⟩,fun ⟨k,h1,h2⟩=>⟨k,List.mem_range.2 h1,h2⟩⟩
section
variable {es : List Ed} (hF : FitE es) (hN : es.length ≤ 1000000000)
include hF hN
theorem srt_perm {i:Nat} (hi:i<es.length):(srt es i).Perm (ps es i es.length):=(sortL_perm (sort_eq hF hi hN 0).2).1
theorem mem_srt {i:Nat} (hi:i<es.length) {x:Int×Bool}:x∈srt es i↔∃k,k<es.length∧psg es i k=some x:=by
 rw [(srt_perm hF hN hi).mem_iff,mem_ps]
theorem nt_of {vs:List (List Nat)} (R:Rg es vs):Nt es.length (nxE es) vs (srt es):=by
 refine ⟨R.nd,R.cyc,R.mem,fun i hi=>?_,fun i hi x hx=>?_⟩
 ·
  refine ((srt_perm hF hN hi).map (·.1)).nodup_iff.2 ?_
  unfold ps List.Nodup
  rw [List.pairwise_map,List.pairwise_filterMap]
  refine List.nodup_range.imp fun {a b} hab x hx y hy e=>hab ?_
  have h1:=(psg_some.1 hx).1
  have h2:=(psg_some.1 hy).1
  omega
 ·
  obtain ⟨k,hk,h⟩:=(mem_srt hF hN hi).1 hx
  obtain ⟨h1,h2,h3,h4,h5⟩:=psg_some.1 h
  obtain ⟨c1,c2,_⟩:=cr_exch (eAt es i).1 (eAt es i).2.1 (eAt es k).1 (eAt es k).2.1
  refine ⟨k,h1,hk,h2,(mem_srt hF hN hk).2 ⟨i,hi,psg_some.2 ⟨rfl,fun e=>h2 e.symm,fun q=>h3 (adj_symm.1 q),by rw [c1,h4],?_⟩⟩⟩
  rw [c2 h4,←h5]
omit hF hN in
theorem sg_one (q:Psg):sgX es q.1 q.2=1∨sgX es q.1 q.2=-1:=by
 unfold sgX sgE
 split<;>split<;>simp
theorem srt_strict {i:Nat} (hi:i<es.length) (ht: ¬tie es i):(srt es i).Pairwise fun x y=>cmpS es i x y<0:=by
 have h1:(srt es i).Pairwise (fun x y=> ¬cmpS es i y x<0):=(sortL_perm (sort_eq hF hi hN 0).2).2
 have hpos: ∀x∈srt es i,0<whl (eAt es i) (eAt es x.1.toNat):=by
  intro x hx
  obtain ⟨k,hk,h⟩:=(mem_srt hF hN hi).1 hx
  obtain ⟨e1,_,_,h4,_⟩:=psg_some.1 h
  have:=(cr_one h4).2
  rw [e1,Int.toNat_natCast]
  unfold Opp at this
  unfold whl
  omega
 have trans: ∀x∈srt es i,∀y∈srt es i,∀z∈srt es i,cmpS es i x y<0→cmpS es i y z≤0→cmpS es i x z<0:=by
  intro x hx y hy z hz h1 h2
  have a:=hpos x hx
  have b:=hpos y hy
  have c:=hpos z hz
  unfold cmpS at*
  generalize prt (eAt es i) (eAt es x.1.toNat)=p1 at*
  generalize prt (eAt es i) (eAt es y.1.toNat)=p2 at*
  generalize prt (eAt es i) (eAt es z.1.toNat)=p3 at*
  generalize whl (eAt es i) (eAt es x.1.toNat)=w1 at*
  generalize whl (eAt es i) (eAt es y.1.toNat)=w2 at*
  generalize whl (eAt es i) (eAt es z.1.toNat)=w3 at*
  have e1:p1*w2*w3<p2*w1*w3:=Int.mul_lt_mul_of_pos_right (by omega) c
  have e2:p2*w3*w1≤p3*w2*w1:=Int.mul_le_mul_of_nonneg_right (by omega) (by omega)
  have e3:w2*(p1*w3)<w2*(p3*w1):=by
   have q1:w2*(p1*w3)=p1*w2*w3:=by grind
   have q2:w2*(p3*w1)=p3*w2*w1:=by grind
   have q3:p2*w1*w3=p2*w3*w1:=by grind
   omega
  have:=Int.lt_of_mul_lt_mul_left e3 (by omega)
  omega
 have adjn: ∀k (hk:k+1<(srt es i).length),cmpS es i ((srt es i)[k]'(by omega)) ((srt es i)[k+1]'hk)<0:=by
  intro k hk
  have hp:=List.pairwise_iff_getElem.1 h1 k (k+1) (by omega) hk (by omega)
  have hz:cmpS es i ((srt es i)[k]'(by omega)) ((srt es i)[k+1]'hk)≠0:=fun e=>ht ⟨k+1,by omega,hk,by
   rw [getD_of' hk,show k+1-1=k from rfl,getD_of' (show k<(srt es i).length by omega)]; exact e⟩
  have hs:cmpS es i ((srt es i)[k+1]'hk) ((srt es i)[k]'(by omega))=- cmpS es i ((srt es i)[k]'(by omega)) ((srt es i)[k+1]'hk):=by
   unfold cmpS; omega
  omega
 rw [List.pairwise_iff_getElem]
 intro a b ha hb hab
 have key: ∀d,∀hd:a+1+d<(srt es i).length,cmpS es i ((srt es i)[a]'ha) ((srt es i)[a+1+d]'hd)<0:=by
  intro d
  induction d with
  | zero=>intro hd; exact adjn a hd
  | succ d ih=>
   intro hd
   exact trans _ (List.getElem_mem _) _ (List.getElem_mem (show a+1+d<_ by omega)) _ (List.getElem_mem _) (ih (by omega)) (Int.le_of_lt (adjn (a+1+d) hd))
 have:=key (b-(a+1)) (by omega)
 have e:a+1+(b-(a+1))=b:=by omega
 simp only [e] at this
 exact this
end
theorem sorted_one {α:Type} {S R:α→α→Prop}: ∀{l1 l2:List α},l1.Perm l2→l1.Pairwise S→l2.Pairwise R→(∀a∈l1,∀b∈l1,S a b→R b a→False)→l1=l2
 | [],l2,h,_,_,_=>h.nil_eq
 | a::t,[],h,_,_,_=>absurd h.length_eq (by simp)
 | a::t,b::u,h,h1,h2,h3=>by
  obtain ⟨s1,s2⟩:=List.pairwise_cons.1 h1
  obtain ⟨r1,r2⟩:=List.pairwise_cons.1 h2
  have hab:a=b:=by
   have hb:b∈a::t:=h.mem_iff.2 (by simp)
   have ha:a∈b::u:=h.mem_iff.1 (by simp)
   rcases List.mem_cons.1 hb with e | hb
   · exact e.symm
   rcases List.mem_cons.1 ha with e | ha
   · exact e
   · exact (h3 a (by simp) b (by simp [hb]) (s1 b hb) (r1 a ha)).elim
  subst hab
  rw [sorted_one ((List.perm_cons a).1 h) s2 r2 fun x hx y hy=>h3 x (by simp [hx]) y (by simp [hy])]
theorem count_fst {es:List Ed} {vs:List (List Nat)} (h:Nt es.length (nxE es) vs (srt es)):countS es=2*(fsN (srt es) vs).length:=by
 rw [←h.vis_len]
 have hp:vs.flatten.Perm (List.range es.length):=(List.perm_ext_iff_of_nodup h.nd List.nodup_range).2 fun a=>by rw [h.mem,List.mem_range]
 have e: ∀v:List Nat,(v.flatMap (prt' (srt es) (fsN (srt es) vs))).length=(v.map fun i=>(srt es i).length).sum:=by
  intro v
  rw [List.length_flatMap]
  congr 1
  exact List.map_congr_left fun i _=>by unfold prt'; rw [List.length_map]
 rw [e]
 unfold countS
 exact (List.Perm.sum_nat (hp.map fun i=>(srt es i).length)).symm
theorem vd_ne {l:List (List Pt)} (hv:Vd l): ∀p∈l,p≠[]:=fun p hp e=>by
 have:=(hv.1 p hp).1
 rw [e] at this
 simp at this
theorem vd_len {l:List (List Pt)} (hv:Vd l):l.length≤64:=by
 have key: ∀l:List (List Pt),(∀p∈l,3≤p.length)→3*l.length≤sumlen l:=by
  intro l
  induction l with
  | nil=>intro _; simp
  | cons p r ih=>
   intro h
   have h1:=h p List.mem_cons_self
   have h2:=ih fun q hq=>h q (List.mem_cons_of_mem _ hq)
   rw [sumlen_cons,List.length_cons]
   omega
 have h1:=key l fun p hp=>(hv.1 p hp).1
 have h2:=hv.2
 omega
structure Pj (l:List (List Pt)):Prop where
 fit:FitE (edS 0 l)
 le:(edS 0 l).length≤1000000000
 rg:Rg (edS 0 l) (vsL 0 l)
 nt:Nt (edS 0 l).length (nxE (edS 0 l)) (vsL 0 l) (srt (edS 0 l))
 vl:(vsL 0 l).length≤64
theorem pj_of {l:List (List Pt)} (hv:Vd l):Pj l:=by
 have hF:FitE (edS 0 l):=fit_edS 0 fun p hp=>(hv.1 p hp).2
 have hN:(edS 0 l).length≤1000000000:=by rw [edS_len]; have:=hv.2; omega
 have R:=rg_edS (vd_ne hv)
 exact ⟨hF,hN,R,nt_of hF hN R,by rw [vsL_len]; exact vd_len hv⟩
def fL (l:List (List Pt)):List Psg:=fsN (srt (edS 0 l)) (vsL 0 l)
def cL (l:List (List Pt)):List (List Vis):=csR (prt' (srt (edS 0 l)) (fL l)) (vsL 0 l)
def sL (l:List (List Pt)):List Int:=(fL l).map fun q=>sgX (edS 0 l) q.1 q.2
def oL (l:List (List Pt)):Int:=loR (prt' (srt (edS 0 l)) (fL l)) (vsL 0 l)
theorem Pj.gv {l:List (List Pt)} (p:Pj l) (h:(fL l).length≤64):GV (cL l) (sL l) (oL l):=p.nt.gv (fun q=>sg_one q) h p.vl
open Classical in
theorem proj_net {l:List (List Pt)} (hv:Vd l):projS l=if GenE (edS 0 l) then (if 64<(fL l).length then ([],[],0,5) else if Int.tdiv (gen2 (sL l).length (muS (sL l) (cL l))) 2=0 then (sL l,mtS (sL l) (cL l),oL l,0) else ([],[],0,7)) else ([],[],0,15):=by
 have p:=pj_of hv
 have hc:=count_fst p.nt
 have hcode:codeS (edS 0 l) (srt (edS 0 l)) l=(cL l,sL l,oL l):=codeS_fst _ _ _
 unfold projS
 rw [if_pos hv]
 by_cases hg:GenE (edS 0 l)
 case neg=>rw [if_neg hg,if_neg hg]
 rw [if_pos hg,if_pos hg,hcode]
 have hc':countS (edS 0 l)=2*(fL l).length:=hc
 by_cases h:64<(fL l).length
 · rw [if_pos h,if_pos (by omega)]
 ·
  rw [if_neg h,if_neg (by omega)]
  unfold gdS
  rw [if_pos (p.gv (by omega))]
end Pg
end Go.Proofs.Yteajmbanlohncaa
