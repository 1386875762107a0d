import Derived.Test.YtpnppjlnfhlmpaaGreatGmp
import Derived.Test.YtpnppjlnfhlmpaaGreatIter
import Derived.Test.YtpnppjlnfhlmpaaGreatTrod
set_option linter.all false
namespace Go.Proofs.YtpnppjlnfhlmpaaGreat
namespace Ev
def ecs:(s:Sh)→s.T→List Value
  | .int k,x=>[.int k x]
  | .bool,x=>[.bool x]
  | .pr a b,x=>ecs a x.1++ecs b x.2
  | .raw,x=>[x]
  | .sl _,_=>[]
theorem Rep.ecs {O:List Nat} {w:World}: ∀{s:Sh},s.flat=true→∀{cs:List Value} {x:s.T},Rep O w s cs x→cs=Ev.ecs s x
  | .int _,_,_,_,h=>h.1
  | .bool,_,_,_,h=>h
  | .raw,_,_,_,h=>h.1
  | .sl _,hf,_,_,_=>by cases hf
  | .pr _ _,hf,_,_,h=>by
    simp only [Sh.flat,Bool.and_eq_true] at hf
    obtain ⟨c1,c2,h1,h2,h3⟩:=h
    rw [h1,Rep.ecs hf.1 h2,Rep.ecs hf.2 h3]; rfl
def pents (kk:KK) (s:Sh) (es:List (kk.T×s.T)):List (kk.T×List Value×s.T):=es.map fun e=>(e.1,ecs s e.2,e.2)
def pobj (kk:KK) (s:Sh) (es:List (kk.T×s.T)):Obj:=.map (ments kk s (pents kk s es) 0).toArray es.length
def mit (g n:Nat) (seen:Array Nat):Obj:=.mapIter (some g) n seen n
def lfi {α:Type} (seen:Array Nat):List α→Nat→List (Nat×α)
  | [],_=>[]
  | e::r,i=>if seen.contains i then lfi seen r (i+1) else (i,e)::lfi seen r (i+1)
theorem lfi_ge {α:Type} {seen:Array Nat}: ∀{l:List α} {i:Nat} {p:Nat×α},p∈lfi seen l i→i≤p.1∧l[p.1-i]? =some p.2∧seen.contains p.1=false
  | [],_,_,h=>by cases h
  | e::r,i,p,h=>by
    unfold lfi at h
    have step:p∈lfi seen r (i+1)→i≤p.1∧(e::r)[p.1-i]? =some p.2∧seen.contains p.1=false:=fun h=>by
      obtain ⟨h1,h2,h3⟩:=lfi_ge h
      refine ⟨by omega,?_,h3⟩
      rw [show p.1-i=(p.1-(i+1))+1 by omega]
      exact h2
    split at h
    · exact step h
    · rename_i q
      rcases List.mem_cons.1 h with e1 | e1
      · subst e1
        exact ⟨Nat.le_refl _,by simp,by simpa using q⟩
      · exact step e1
theorem lfi_skip {α:Type} {seen:Array Nat} {q:Nat}: ∀{l:List α} {i:Nat},q<i→lfi (seen.push q) l i=lfi seen l i
  | [],_,_=>rfl
  | e::r,i,h=>by
    unfold lfi
    rw [lfi_skip (l:=r) (by omega),contains_push]
    have:(i == q)=false:=by simp; omega
    rw [this,Bool.or_false]
theorem lfi_push {α:Type} {seen:Array Nat}: ∀{l:List α} {i:Nat} {p:Nat×α},p∈lfi seen l i→(lfi seen l i).Perm (p::lfi (seen.push p.1) l i)
  | [],_,_,h=>by cases h
  | e::r,i,p,h=>by
    have h0:=lfi_ge h
    by_cases hq:p.1=i
    · have hs:seen.contains i=false:=by rw [←hq]; exact h0.2.2
      have he:p.2=e:=by
        have:=h0.2.1
        rw [hq,Nat.sub_self] at this
        simpa using this.symm
      have ep:p=(i,e):=by rw [←hq,←he]
      subst ep
      unfold lfi
      rw [hs,contains_push,hs,lfi_skip (Nat.lt_succ_self i)]
      simp
    · have hm:p∈lfi seen r (i+1):=by
        unfold lfi at h
        split at h
        · exact h
        · rcases List.mem_cons.1 h with e1 | e1
          · rw [e1] at hq; exact absurd rfl hq
          · exact e1
      have ih:=lfi_push hm
      unfold lfi
      rw [contains_push,show (i == p.1)=false by simp; omega,Bool.or_false]
      split
      · exact ih
      · exact (ih.cons _).trans (.swap _ _ _)
theorem lfi_all {α:Type}: ∀(l:List α) (i:Nat),(lfi (#[]:Array Nat) l i).map (·.2)=l
  | [],_=>rfl
  | e::r,i=>by
    unfold lfi
    rw [if_neg (by simp),List.map_cons,lfi_all r (i+1)]
theorem left_ments {kk:KK} {s:Sh} (seen:Array Nat): ∀(es:List (kk.T×List Value×s.T)) (i:Nat),(ments kk s es i).filter (fun e=>!seen.contains e.born)=(lfi seen es i).map fun p=>{ key:=kk.v p.2.1,val:=vof s p.2.2.1,born:=p.1 }
  | [],_=>rfl
  | e::r,i=>by
    unfold ments lfi
    rw [List.filter_cons]
    by_cases h:seen.contains i=true
    · rw [if_neg (by dsimp only; rw [h]; decide),if_pos h]; exact left_ments seen r (i+1)
    · have h':seen.contains i=false:=by simpa using h
      rw [if_pos (by dsimp only; rw [h']; rfl),if_neg h,left_ments seen r (i+1),List.map_cons]
theorem lfi_map {α β:Type} (f:α→β) (seen:Array Nat): ∀(l:List α) (i:Nat),lfi seen (l.map f) i=(lfi seen l i).map fun p=>(p.1,f p.2)
  | [],_=>rfl
  | e::r,i=>by
    rw [List.map_cons]
    unfold lfi
    rw [lfi_map f seen r (i+1)]
    split<;>rfl
section
variable {P : Program} {ρ : Operand → Value} {d : Option Tmp} {ty : TypeId} {pos : String} {af : Array Edge} {gd : Option (Nat × Bool)} {x : Operand}
variable {I : Nat → Prop} {O0 : List Nat} {w0 w w' : World} {L : List Fact} {t kt ve : TypeId} {kk : KK} {s : Sh}
theorem Cx.mpopen (h:Cx I O0 w0 w L) (hf:s.flat=true) {i g:Nat} {m:List (kk.T×s.T)} (hi:L[i]? =some (.mp g kk s m)):
    ∃es:List (kk.T×s.T),es.Perm m∧Cx I O0 w0 w (L.set i (.obj g (pobj kk s es)))∧∀e∈es,kk.ok e.1∧s.ok e.2:=by
  obtain ⟨es,h1,h2,h3,h4⟩:=h.mpat hi
  have e1:es=pents kk s (es.map fun e=>(e.1,e.2.2)):=by
    unfold pents
    rw [List.map_map]
    conv=>lhs; rw [←List.map_id es]
    refine List.map_congr_left fun e he=>?_
    show e=(e.1,ecs s e.2.2,e.2.2)
    rw [←Rep.ecs hf (h4 e he).2]
  refine ⟨es.map fun e=>(e.1,e.2.2),h1,h.turn hi (Fr.refl _ w) (.inl rfl) fun O ho=>?_,fun e he=>?_⟩
  · show w.heap[g]? =some (pobj kk s _)
    unfold pobj
    rw [←e1,List.length_map]
    exact h3
  · obtain ⟨e',he',rfl⟩:=List.mem_map.1 he
    exact ⟨(h4 e' he').1,(h4 e' he').2.ok⟩
theorem Cx.mrange (h:Cx I O0 w0 w L) {i g:Nat} {es:List (kk.T×s.T)} (hi:L[i]? =some (.obj g (pobj kk s es))) (ht:P.underlying t=some (.map kt ve)) (hx:ρ x=.map (some g)):
    Op P ρ ⟨d,.range t x,ty,pos,af,gd⟩ w fun v w'=> ∃r,v=.pointer (some ⟨r,0,none⟩)∧Cx I O0 w0 w' (.obj r (mit g es.length #[])::L)∧Fr (fun _=>False) w w':=by
  have hm:w.heap[g]? =some (pobj kk s es):=h.ob hi
  refine ⟨_,w.alloc (mit g es.length #[]),?_,w.heap.size,rfl,h.obj _,Fr.alloc w _ _⟩
  have:=run_range_map (P:=P) w t kt ve g _ _ ht (show w.heap[g]? =some (.map (ments kk s (pents kk s es) 0).toArray es.length) from hm)
  simp [execOp,hx,this,mit]
theorem Cx.mnext (h:Cx I O0 w0 w L) {i j g r:Nat} {es:List (kk.T×s.T)} {seen:Array Nat} (hi:L[i]? =some (.obj g (pobj kk s es))) (hj:L[j]? =some (.obj r (mit g es.length seen))) {lft:List (kk.T×s.T)} (hl:((lfi seen es 0).map (·.2)).Perm lft):
    (lft=[]∧∀{ρ:Operand→Value} {d:Option Tmp} {ty:TypeId} {pos:String} {af:Array Edge} {gd:Option (Nat×Bool)} {x:Operand},ρ x=.pointer (some ⟨r,0,none⟩)→Yv P ρ ⟨d,.next x false,ty,pos,af,gd⟩ w (.tuple #[.bool false]))∨∃(e:kk.T×s.T) (rest:List (kk.T×s.T)) (q:Nat) (w':World),es[q]? =some e∧lft.Perm (e::rest)∧((lfi (seen.push q) es 0).map (·.2)).Perm rest∧
      (∀{ρ:Operand→Value} {d:Option Tmp} {ty:TypeId} {pos:String} {af:Array Edge} {gd:Option (Nat×Bool)} {x:Operand},ρ x=.pointer (some ⟨r,0,none⟩)→(execOp ρ ⟨d,.next x false,ty,pos,af,gd⟩).run P w=.ok (.value (.tuple #[.bool true,kk.v e.1,vof s (ecs s e.2)])) w')∧Cx I O0 w0 w' (L.set j (.obj r (mit g es.length (seen.push q))))∧Fr (fun b=>some r=some b) w w':=by
  have hm:w.heap[g]? =some (.map (ments kk s (pents kk s es) 0).toArray es.length):=h.ob hi
  have hr:w.heap[r]? =some (.mapIter (some g) es.length seen es.length):=h.ob hj
  have hlen:(pents kk s es).length=es.length:=List.length_map ..
  have hold: ∀m∈(ments kk s (pents kk s es) 0).toArray.toList,m.born<es.length:=fun m hm=>by
    obtain ⟨q,hq⟩:=List.mem_iff_getElem?.1 hm
    rw [ments_at] at hq
    cases he:(pents kk s es)[q]? with
    | none=>rw [he] at hq; cases hq
    | some e=>
      rw [he] at hq
      have h1:=(List.getElem?_eq_some_iff.1 he).1
      have:=Option.some.inj hq
      rw [←this]
      dsimp only
      omega
  have hleft:(leftOf (ments kk s (pents kk s es) 0).toArray seen).toList=(lfi seen es 0).map fun p=>{ key:=kk.v p.2.1,val:=vof s (ecs s p.2.2),born:=p.1 }:=by
    unfold leftOf
    rw [Array.toList_filter]
    show (ments kk s (pents kk s es) 0).filter _=_
    rw [left_ments]
    unfold pents
    rw [lfi_map,List.map_map]
    rfl
  have hany: ∀ty:TypeId,(Instr.next (.pointer (some ⟨r,0,none⟩)) false ty).run P w=(Instr.next (.pointer (some ⟨r,0,none⟩)) false 0).run P w:=fun _=>rfl
  rcases run_next_at (P:=P) w 0 r g es.length es.length seen _ es.length hr hm hold (Nat.le_refl _) with ⟨h0,hrun⟩ | ⟨m,hmem,w1,hw1,hrun⟩
  · left
    have:lfi seen es 0=[]:=by
      have h1:(leftOf (ments kk s (pents kk s es) 0).toArray seen).toList.length=0:=h0
      rw [hleft,List.length_map] at h1
      exact List.eq_nil_of_length_eq_zero h1
    rw [this] at hl
    exact ⟨hl.nil_eq.symm,fun {ρ d ty pos af gd x} hx=>by unfold Yv; simp [execOp,hx,hany ty,hrun]⟩
  · right
    rw [hleft] at hmem
    obtain ⟨p,hp,rfl⟩:=List.mem_map.1 hmem
    have hpush:=(lfi_push hp).map (·.2)
    rw [List.map_cons] at hpush
    have hg:=lfi_ge hp
    refine ⟨p.2,(lfi (seen.push p.1) es 0).map (·.2),p.1,w1.putObj r (mit g es.length (seen.push p.1)),by simpa using hg.2.1,hl.symm.trans hpush,.refl _,fun {ρ d ty pos af gd x} hx=>by simp [execOp,hx,hany ty,hrun]; rfl,?_,?_⟩
    · rcases hw1 with e | e
      · subst e; exact h.setObj hj _
      · subst e; exact h.drew.setObj hj _
    · rcases hw1 with e | e
      · subst e; exact Fr.putObj (S:=fun b=>some r=some b) _ rfl _
      · subst e; exact (Fr.drew w _).trans (Fr.putObj (S:=fun b=>some r=some b) _ rfl _)
theorem Cx.mentry (h:Cx I O0 w0 w L) {i j g r q:Nat} {es:List (kk.T×s.T)} {seen:Array Nat} {e:kk.T×s.T} (hi:L[i]? =some (.obj g (pobj kk s es))) (hj:L[j]? =some (.obj r (mit g es.length (seen.push q)))) (he:es[q]? =some e) (hx:ρ x=.pointer (some ⟨r,0,none⟩)):
    Yv P ρ ⟨d,.entry x,ty,pos,af,gd⟩ w (.tuple #[kk.v e.1,vof s (ecs s e.2)]):=by
  have hm:w.heap[g]? =some (.map (ments kk s (pents kk s es) 0).toArray es.length):=h.ob hi
  have hr:w.heap[r]? =some (.mapIter (some g) es.length (seen.push q) es.length):=h.ob hj
  have hat:(ments kk s (pents kk s es) 0)[q]? =some { key:=kk.v e.1,val:=vof s (ecs s e.2),born:=q }:=by
    rw [ments_at]; unfold pents; rw [List.getElem?_map,he]; simp
  have hn:((ments kk s (pents kk s es) 0).toArray.toList.map (·.born)).Nodup:=by
    have key: ∀(l:List (kk.T×List Value×s.T)) (i:Nat),(ments kk s l i).map (·.born)=List.range' i l.length:=by
      intro l
      induction l with
      | nil=>intro i; rfl
      | cons a l ih=>intro i; simp [ments,ih,List.range'_succ]
    show ((ments kk s (pents kk s es) 0).map (·.born)).Nodup
    rw [key]
    exact List.nodup_range'
  have:=run_entry_at (P:=P) w r g es.length seen _ es.length { key:=kk.v e.1,val:=vof s (ecs s e.2),born:=q } hr hm (List.mem_of_getElem? hat) hn
  unfold Yv
  simp [execOp,hx,this]
end
/-! The plain form of a range over a map:a fold,whose result is the same in each order. -/
def foldG {K S X:Type} (step:K→S→Option (S⊕X)):S→List K→Option (S⊕X)
  | s,[]=>some (.inl s)
  | s,k::r=>(step k s).bind fun o=>match o with | .inl s'=>foldG step s' r | .inr x=>some (.inr x)
open Classical in
noncomputable def foldM {K S X R:Type} (step:K→S→Option (S⊕X)) (s:S) (m:List K) (k:(S⊕X)→Option R):Option R:=
  if∀m',m'.Perm m→(foldG step s m').bind k=(foldG step s m).bind k then (foldG step s m).bind k else none
theorem foldM_some {K S X R:Type} {step:K→S→Option (S⊕X)} {s:S} {m:List K} {k:(S⊕X)→Option R} {r:R} (h:foldM step s m k=some r): ∀m',m'.Perm m→(foldG step s m').bind k=some r:=fun m' hp=>by
  unfold foldM at h
  split at h
  · rename_i q; rw [q m' hp]; exact h
  · cases h
theorem foldG_ex {K S X R:Type} {step:K→S→Option (S⊕X)} {s:S} {e:K} {l:List K} {k:(S⊕X)→Option R} {r:R} (h:(foldG step s (e::l)).bind k=some r): ∃o,step e s=some o:=by
  unfold foldG at h
  cases hs:step e s with
  | none=>rw [hs] at h; cases h
  | some o=>exact ⟨o,rfl⟩
theorem foldG_inl {K S X R:Type} {step:K→S→Option (S⊕X)} {s s':S} {e:K} {l:List K} {k:(S⊕X)→Option R} {r:R} (hs:step e s=some (.inl s')) (h:(foldG step s (e::l)).bind k=some r):(foldG step s' l).bind k=some r:=by
  unfold foldG at h
  rw [hs] at h; exact h
theorem lfi_start {α:Type} (es:List α):((lfi (#[]:Array Nat) es 0).map (·.2)).Perm es:=by rw [lfi_all]
theorem foldM_open {K S X R:Type} {step:K→S→Option (S⊕X)} {s:S} {m:List K} {k:(S⊕X)→Option R} {r:R} (h:foldM step s m k=some r): ∃k',k'=k∧∀m',m'.Perm m→(foldG step s m').bind k'=some r:=⟨k,rfl,foldM_some h⟩
