import Derived.Test.YteajmbanlohncaaTrod
set_option linter.unusedVariables false
namespace Go.Proofs.Yteajmbanlohncaa
namespace Ev
structure BulkOk {H:Type} (β:DataW H→Nat):Prop where
  lit: ∀l,1≤β (.lit l)
  nil:1≤β .nil
  sl: ∀es sp,(es.map β).sum+1≤β (.slice es sp)
  agg: ∀ps,(ps.map β).sum≤β (.agg ps)
def Sh.bulk:(s:Sh)→s.T→Nat
  | .int _,_=>1
  | .bool,_=>1
  | .sl s,xs=>(xs.map (Sh.bulk s)).sum+1
  | .pr a b,x=>Sh.bulk a x.1+Sh.bulk b x.2
  | .raw,_=>1
theorem Sh.bulk_pos: ∀(s:Sh) (x:s.T),1≤s.bulk x
  | .int _,_=>Nat.le_refl _
  | .bool,_=>Nat.le_refl _
  | .sl s,xs=>by show 1≤(xs.map (Sh.bulk s)).sum+1; omega
  | .pr a b,x=>by
    have:=Sh.bulk_pos a x.1
    show 1≤Sh.bulk a x.1+Sh.bulk b x.2
    omega
  | .raw,_=>Nat.le_refl _
theorem sum_len {α:Type} (f:α→Nat) (h: ∀x,1≤f x): ∀xs:List α,xs.length≤(xs.map f).sum
  | []=>Nat.le_refl _
  | x::xs=>by
    have:=sum_len f h xs
    have:=h x
    simp only [List.length_cons,List.map_cons,List.sum_cons]
    omega
theorem Sh.bulk_len (s:Sh) (xs:List s.T):xs.length≤Sh.bulk (.sl s) xs:=by
  have:=sum_len (Sh.bulk s) (Sh.bulk_pos s) xs
  show xs.length≤(xs.map (Sh.bulk s)).sum+1
  omega
section
variable {H : Type} {enc : TypeId × Value → H} {P : Program} {w : World} {β : DataW H → Nat}
def GoodB (enc:TypeId×Value→H) (P:Program) (w:World) (β:DataW H→Nat) (n:Nat) (s:Sh) (t:TypeId):Prop:=
  ∀cs d ps,DataW.trod enc P w 0 (fun _=>true) true n t cs=some (d,ps)→∃x:s.T,Rep [] w s cs x∧s.bulk x≤β d
theorem fieldsB {n:Nat} (ih: ∀s t,Fit P s t→GoodB enc P w β n s t): ∀{s:Sh} {fs:List Field} {o:Nat},FitL P s fs o→∀{cs:List Value} {xs:List (DataW H×List MemPlace)},o+s.n≤cs.length→
    fs.mapM (fun f=>DataW.trod enc P w 0 (fun _=>true) true n f.type ((cs.drop f.offset).take (P.cellsOf f.type)))=some xs→
    ∃x:s.T,Rep [] w s ((cs.drop o).take s.n) x∧s.bulk x≤((xs.map (·.1)).map β).sum
  | s,[f],_,.one ho hc hf,cs,xs,hl,h=>by
    rw [List.mapM_cons] at h
    simp only [List.mapM_nil,Option.pure_def,Option.bind_eq_bind,Option.bind_eq_some_iff,Option.bind_some] at h
    obtain ⟨⟨d,ps⟩,h1,h2⟩:=h
    injection h2 with h2
    subst h2
    obtain ⟨x,g1,g2⟩:=ih _ _ hf _ _ _ h1
    rw [ho,hc] at g1
    exact ⟨x,g1,by simpa using g2⟩
  | .pr a b,f::r,o,.cons ho hc hf hr,cs,xs,hl,h=>by
    rw [List.mapM_cons] at h
    simp only [Option.pure_def,Option.bind_eq_bind,Option.bind_eq_some_iff] at h
    obtain ⟨⟨d,ps⟩,h1,ys,h2,h3⟩:=h
    injection h3 with h3
    subst h3
    have hl':o+(a.n+b.n)≤cs.length:=hl
    obtain ⟨x,g1,g2⟩:=ih _ _ hf _ _ _ h1
    obtain ⟨y,k1,k2⟩:=fieldsB ih hr (by omega) h2
    rw [ho,hc] at g1
    refine ⟨(x,y),⟨_,_,?_,g1,k1⟩,?_⟩
    · show List.take (a.n+b.n) (cs.drop o)=_
      rw [List.take_add,List.drop_drop]
    · show a.bulk x+b.bulk y≤_
      simp only [List.map_cons,List.sum_cons]
      omega
theorem goodB (hβ:BulkOk β): ∀(n:Nat) (s:Sh) (t:TypeId),Fit P s t→GoodB enc P w β n s t
  | 0,_,_,_=>fun cs d ps h=>by simp [DataW.trod] at h
  | n+1,_,t,.int (k:=k) ht=>fun cs d ps h=>by
    obtain ⟨m,rfl,hx,hw⟩:=DataW.trod_int ht h
    injection hx with h1 h2
    subst h1 h2
    exact ⟨m,⟨rfl,wf_wrapK hw⟩,hβ.lit _⟩
  | n+1,_,t,.bool ht=>fun cs d ps h=>by
    obtain ⟨b,rfl,hx⟩:=DataW.trod_bool ht h
    injection hx with h1 h2
    subst h1 h2
    exact ⟨b,rfl,hβ.lit _⟩
  | n+1,_,t,.sl (s:=s) (e:=e) ht hc hf=>fun cs d ps h=>by
    rcases DataW.trod_slice ht h with ⟨rfl,hx⟩ | ⟨a,len,cap,elems,rest,m,hm,rfl,hx,_,hlc,hcm,hel,he,hr,_⟩
    · injection hx with h1 h2
      subst h1 h2
      exact ⟨[],⟨none,0,rfl,Nat.le_refl _,by omega,fun h=>absurd h (by simp)⟩,hβ.nil⟩
    · injection hm with hm
      subst hm
      injection hx with h1 h2
      subst h1 h2
      rw [hc] at he
      have one: ∀(k:Nat) (y:DataW H×List MemPlace),(w.cells? 0 (a.add (k*s.n)) s.n).bind (DataW.trod enc P w 0 (fun _=>true) true n e)=some y→
          ∃x:s.T,(∃cs',(∀j u,cs'[j]? =some u→w.cell? (a.add (k*s.n+j))=some u)∧Rep [] w s cs' x)∧s.bulk x≤β y.1:=by
        intro k y hy
        obtain ⟨cs',h1,h2⟩:=Option.bind_eq_some_iff.1 hy
        obtain ⟨x,g1,g2⟩:=goodB hβ n s e hf _ _ _ h2
        exact ⟨x,⟨cs',fun j u hu=>by rw [←add_add]; exact (cells_get h1).2 j u hu,g1⟩,g2⟩
      have all: ∀m,m≤elems.length→∃xs:List s.T,xs.length=m∧(∀i x,xs[i]? =some x→∃cs',(∀j u,cs'[j]? =some u→w.cell? (a.add (i*s.n+j))=some u)∧Rep [] w s cs' x)∧(xs.map s.bulk).sum≤(((elems.take m).map (·.1)).map β).sum:=by
        intro m
        induction m with
        | zero=>intro _; exact ⟨[],rfl,fun i x hx=>by simp at hx,by simp⟩
        | succ m ih=>
          intro hm
          obtain ⟨xs,h1,h2,h3⟩:=ih (by omega)
          have hy:=he m (by omega)
          have hem:elems[m]? =some (elems[m]'(by omega)):=List.getElem?_eq_getElem _
          rw [hem] at hy
          obtain ⟨x,k1,k2⟩:=one m _ hy
          refine ⟨xs++[x],by simp [h1],fun i y hy=>?_,?_⟩
          · rcases Nat.lt_or_ge i m with hi | hi
            · rw [List.getElem?_append_left (by omega)] at hy; exact h2 i y hy
            · rw [List.getElem?_append_right (by omega),h1] at hy
              have:i=m:=by have:=(List.getElem?_eq_some_iff.1 hy).1; simp at this; omega
              subst this
              simp at hy
              subst hy
              exact k1
          · rw [List.take_add_one,hem]
            simp only [List.map_append,List.sum_append,Option.toList_some,List.map_cons,List.map_nil,List.sum_cons,List.sum_nil]
            omega
      obtain ⟨xs,h1,h2,h3⟩:=all elems.length (Nat.le_refl _)
      rw [List.take_length] at h3
      refine ⟨xs,⟨some a,cap,by rw [h1,hel],by omega,hcm,fun _=>⟨a,rfl,by simp,h2⟩⟩,?_⟩
      have:=hβ.sl (elems.map (·.1)) (rest.map (·.1))
      show (xs.map s.bulk).sum+1≤_
      omega
  | n+1,s,t,.st (fs:=fs) ht hc hf=>fun cs d ps h=>by
    unfold DataW.trod at h
    rw [ht] at h
    have h':(if cs.length=P.cellsOf t then (fs.toList.mapM fun f=>DataW.trod enc P w 0 (fun _=>true) true n f.type ((cs.drop f.offset).take (P.cellsOf f.type))).map (fun xs=>(DataW.agg (xs.map (·.1)),xs.flatMap (·.2))) else none)=some (d,ps):=h
    split at h'
    · rename_i hl
      obtain ⟨xs,h1,h2⟩:=Option.map_eq_some_iff.1 h'
      injection h2 with h2 h3
      subst h2 h3
      obtain ⟨x,g1,g2⟩:=fieldsB (goodB hβ n) hf (by omega) h1
      refine ⟨x,?_,Nat.le_trans g2 (hβ.agg _)⟩
      rwa [List.drop_zero,List.take_of_length_le (by omega)] at g1
    · cases h'
theorem open_shB (hβ:BulkOk β) {s:Sh} {t:TypeId} {v:Value} {d:DataW H} {ps:List MemPlace} (hf:Fit P s t) (h:DataW.Trod enc P w 0 (fun _=>true) true t v d ps):
    (∃x:s.T,Rep [] w s v.cells.toList x∧s.bulk x≤β d)∧∀w',Fr (fun _=>False) w w'→∀sp:Nat→Bool,(∀p∈ps,sp p.block=true)→DataW.Trod enc P w' 0 sp true t v d ps:=by
  refine ⟨?_,(open_sh hf h).2⟩
  obtain ⟨n,h⟩:=h
  exact goodB hβ n s t hf _ _ _ h
end
end Ev
end Go.Proofs.Yteajmbanlohncaa
