import Derived.Test.YtpnppjlnfhlmpaaGreatHeap
namespace Go.Proofs.YtpnppjlnfhlmpaaGreat
namespace Ev
open Go.RowKit (Below)

def Src (w:World) (size:Nat) (A:Option Addr) (m:Nat) (news:List Value):Prop:=
 news.length=m*size∧(0<m→∃ad,A=some ad∧∀j u,news[j]? =some u→w.cell? (ad.add j)=some u)

theorem Src.first {P:Program} {w:World} {size:Nat} {A:Option Addr} {m c:Nat} {news:List Value} (h:Src w size A m news):(Builtin.firstCells size m (.slice A m c)).run P w=.ok news.toArray w:=by
 rcases Nat.eq_zero_or_pos m with h0 | h0
 ·
  subst h0
  have hn:news=[]:=List.eq_nil_of_length_eq_zero (by simpa using h.1)
  subst hn
  cases A with
  | none=>simp [Builtin.firstCells]
  | some ad=>exact run_firstCells_some w size 0 ad 0 c [] (by simp) (by simp)
 ·
  obtain ⟨ad,rfl,hc⟩:=h.2 h0
  exact run_firstCells_some w size m ad m c news h.1 hc

section
variable {P : Program}

theorem append_cells (w:World) (t t2 ty e e2:TypeId) (i:TypeInfo) (z:Value) (ht:P.underlying t=some (.slice e)) (ht2:P.underlying t2=some (.slice e2)) (hi:P.info? e=some i) (hz:i.zero=some z)
  (hzs:z.cells.size=i.size) {v:Value} {n:Nat} {xs:List Value} {G:Option Nat} (hown:OwnC w e i.size v n xs G)
  {A:Option Addr} {m c:Nat} {news:List Value} (hs:Src w i.size A m news) (h1: ∀u∈news,u.oneCell'=true)
  (h63:n+m≤9223372036854775807) (hbytes:(n+m)*i.bytes≤140737488355328):
  ∃v' w' G',(Builtin.append_ #[t,t2] ty #[v,.slice A m c]).run P w=.ok v' w'∧OwnC w' e i.size v' (n+m) (xs++news) G'∧Fr (fun k=>G=some k) w w'∧(G'=G∨G'=some w.heap.size):=by
 have hlen:(xs++news).length=(n+m)*i.size:=by rw [List.length_append,hown.1,hs.1,Nat.add_mul]
 have hf: ∀w':World,w'.heap=w.heap→(Builtin.firstCells i.size m (.slice A m c)).run P w'=.ok news.toArray w':=fun w' hw=>Src.first ⟨hs.1,fun hp=>by
  obtain ⟨ad,hA,hc⟩:=hs.2 hp
  exact ⟨ad,hA,fun j u hu=>by have:=hc j u hu; unfold World.cell? at this⊢; rw [hw]; exact this⟩⟩
 have grow: ∀(old:Nat),old<n+m→
   OwnC (w.drew.alloc (.cells (xs.toArray++news.toArray++Builtin.zeroCells z.cells (grownCap w (n+m) old e-(n+m))) e)) e i.size (.slice (some ⟨w.heap.size,0,none⟩) (n+m) (grownCap w (n+m) old e)) (n+m) (xs++news) (some w.heap.size)∧
   Fr (fun k=>G=some k) w (w.drew.alloc (.cells (xs.toArray++news.toArray++Builtin.zeroCells z.cells (grownCap w (n+m) old e-(n+m))) e)):=by
  intro old ho
  have hge:=grownCap_ge w (n+m) old e
  have hcm:grownCap w (n+m) old e≤maxLen:=grownCap_le_maxLen w (n+m) old e (by unfold maxLen; omega)
  refine ⟨⟨hlen,.inr ⟨w.heap.size,0,_,_,rfl,rfl,Go.heap_alloc_new w.drew _,hge,by unfold maxLen at hcm; omega,?_,?_⟩⟩,?_⟩
  ·
   simp only [Array.size_append,List.size_toArray,size_zeroCells,hzs,hown.1,hs.1,←Nat.add_mul]
   rw [Nat.zero_add]
   exact Nat.le_of_eq (by congr 1; omega)
  ·
   simp only [Array.toList_append,List.append_assoc,List.drop_zero]
   rw [←List.append_assoc,←hlen]
   exact List.take_left
  · exact (Fr.drew w _).trans (Fr.alloc w.drew _ _)
 rcases hown.2 with ⟨rfl,rfl,rfl⟩ | ⟨g,o,cap,cur,rfl,rfl,hg,hnc,hcm,hcs,htake⟩
 ·
  have hx:xs=[]:=List.eq_nil_of_length_eq_zero (by simpa using hown.1)
  subst hx
  by_cases hm:m=0
  ·
   subst hm
   have hn:news=[]:=List.eq_nil_of_length_eq_zero (by simpa using hs.1)
   subst hn
   refine ⟨.slice none 0 0,w,none,?_,⟨by simp,.inl ⟨rfl,rfl,rfl⟩⟩,Fr.refl _ _,.inl rfl⟩
   have:=hf w rfl
   simp [Builtin.append_,run_underlying ht,run_underlying ht2,sizeOf,typeInfo,hi,Builtin.lenOf,this]
  ·
   have hgr:=grow 0 (by omega)
   refine ⟨_,_,_,?_,hgr.1,hgr.2,.inr rfl⟩
   have h63': ¬(9223372036854775807<(m:Int)):=by omega
   have h48': ¬(281474976710656<Builtin.nextslicecap m 0*i.bytes):=by rw [nextslicecap_zero (by omega)]; have:=hbytes; simp only [Nat.zero_add] at this; omega
   have:=hf w.drew rfl
   simp [Builtin.append_,run_underlying ht,run_underlying ht2,sizeOf,typeInfo,zeroValue,hi,hz,Builtin.lenOf,hm,h63',h48',Question.forced,run_firstCells_none,this,newRow,grownCap]
 ·
  by_cases hroom:n+m≤cap
  ·
   have hfit:o+n*i.size+news.length≤cur.size:=by
    have:(n+m)*i.size≤cap*i.size:=Nat.mul_le_mul_right _ hroom
    rw [Nat.add_mul] at this
    rw [hs.1]
    omega
   have hst:=run_storeCells_at P g (o+n*i.size) e news 0 cur w hg (by simpa using hfit) h1
   simp only [Nat.add_zero] at hst
   refine ⟨.slice (some ⟨g,o,none⟩) (n+m) cap,w.setRow g (cur.toList.take (o+n*i.size)++news++cur.toList.drop (o+n*i.size+news.length)).toArray,some g,?_,⟨hlen,.inr ⟨g,o,cap,_,rfl,rfl,setRow_heap w g cur _ e _ hg,hroom,hcm,?_,?_⟩⟩,Fr.setRow (S:=fun k=>some g=some k) w (.inl rfl) _,.inl rfl⟩
   ·
    have:=hf w rfl
    simp [Builtin.append_,run_underlying ht,run_underlying ht2,sizeOf,typeInfo,hi,Builtin.lenOf,hroom,this,Addr.add_lit,hst]
   ·
    simp only [List.size_toArray,List.length_append,List.length_take,List.length_drop,Array.length_toList]
    omega
   ·
    have hl:cur.toList.length=cur.size:=by simp
    have hx:xs.length=n*i.size:=hown.1
    have e1:(cur.toList.take (o+n*i.size)).drop o=xs:=by
     rw [List.drop_take,←htake]
     congr 1
     omega
    simp only [List.append_assoc]
    rw [List.drop_append_of_le_length (by rw [List.length_take,hl]; omega),e1,←List.append_assoc,←hlen]
    exact List.take_left
  ·
   have hgr:=grow cap (by omega)
   refine ⟨_,_,_,?_,hgr.1,hgr.2,.inr rfl⟩
   have holds: ∀j u,xs[j]? =some u→w.cell? ((⟨g,o,none⟩:Addr).add j)=some u:=fun j u hu=>hown.cell rfl hu
   have hfo:=run_firstCells_some (P:=P) w.drew i.size n ⟨g,o,none⟩ n cap xs hown.1 (by simpa using holds)
   have hn: ¬(n+m≤cap):=hroom
   have h63': ¬(9223372036854775807<((n:Int)+(m:Int))):=by omega
   have h48': ¬(281474976710656<Builtin.nextslicecap (n+m) cap*i.bytes):=by have:=growslice_fits (need:=n+m) (old:=cap) (bytes:=i.bytes) (by omega) hbytes; omega
   have:=hf w.drew rfl
   simp [Builtin.append_,run_underlying ht,run_underlying ht2,sizeOf,typeInfo,zeroValue,hi,hz,Builtin.lenOf,hn,h63',h48',Question.forced,this,hfo,newRow,grownCap]
   congr 2
   apply Array.ext'
   simp [List.append_assoc]

theorem Elems.append {O:List Nat} {w:World} {s:Sh} {cs ds:List Value} {xs ys:List s.T} (h:Elems O w s cs xs) (k:Elems O w s ds ys):Elems O w s (cs++ds) (xs++ys):=by
 refine ⟨by rw [List.length_append,List.length_append,h.1,k.1,Nat.add_mul],fun i x hx=>?_⟩
 rcases Nat.lt_or_ge i xs.length with hlt | hge
 ·
  rw [List.getElem?_append_left hlt] at hx
  have hh:=h.2 i x hx
  have hle:i*s.n+s.n≤cs.length:=by rw [h.1,←Nat.succ_mul]; exact Nat.mul_le_mul_right _ hlt
  rw [List.drop_append_of_le_length (by omega),List.take_append_of_le_length (by rw [List.length_drop]; omega)]
  exact hh
 ·
  rw [List.getElem?_append_right hge] at hx
  have hh:=k.2 _ x hx
  rw [List.drop_append,List.drop_eq_nil_of_le (by rw [h.1]; exact Nat.mul_le_mul_right _ hge),List.nil_append,h.1,←Nat.sub_mul]
  exact hh

theorem Elems.one {O:List Nat} {w:World} {s:Sh} {cs:List Value} {xs:List s.T} (h:Elems O w s cs xs): ∀u∈cs,u.oneCell'=true:=by
 intro u hu
 obtain ⟨j,hj,rfl⟩:=List.mem_iff_getElem.1 hu
 have hp:=s.n_pos
 have hi:j/ s.n<xs.length:=(Nat.div_lt_iff_lt_mul hp).2 (by rw [←h.1]; exact hj)
 have hr:=h.2 (j/ s.n) _ (List.getElem?_eq_getElem hi)
 refine hr.one _ (List.mem_iff_getElem?.2 ⟨j%s.n,?_⟩)
 rw [List.getElem?_take_of_lt (Nat.mod_lt _ hp),List.getElem?_drop,Nat.mul_comm,Nat.div_add_mod]
 exact List.getElem?_eq_getElem hj

theorem append_run {O O':List Nat} {w:World} {t t2 ty e e2:TypeId} {i:TypeInfo} {z:Value} {s:Sh} (ht:P.underlying t=some (.slice e)) (ht2:P.underlying t2=some (.slice e2)) (hi:P.info? e=some i) (hz:i.zero=some z)
  (hzs:z.cells.size=s.n) (hsz:i.size=s.n) {v:Value} {xs ys:List s.T} {G:Option Nat} (hown:Own O w e s v xs G) (hG: ∀g,G=some g→g∈O) (hO: ∀k∈O',k∈O∨w.heap.size≤k)
  {A:Option Addr} {m c:Nat} {news:List Value} (hs:Src w s.n A m news) (hm:ys.length=m) (hy:Elems O w s news ys)
  (h63:xs.length+m≤9223372036854775807) (hbytes:(xs.length+m)*i.bytes≤140737488355328):
  ∃v' w' G',(Builtin.append_ #[t,t2] ty #[v,.slice A m c]).run P w=.ok v' w'∧Own O' w' e s v' (xs++ys) G'∧Fr (fun k=>G=some k) w w'∧(G'=G∨G'=some w.heap.size):=by
 obtain ⟨cs,h1,h2⟩:=hown
 rw [←hsz] at h1 hs
 obtain ⟨v',w',G',hr,ho,hf,hg⟩:=append_cells (P:=P) w t t2 ty e e2 i z ht ht2 hi hz (by rw [hzs,hsz]) h1 hs hy.one h63 hbytes
 refine ⟨v',w',G',hr,⟨_,?_,(h2.append hy).step hf (fun k hk=>hG k hk) hO⟩,hf,hg⟩
 rw [←hsz,List.length_append,hm]
 exact ho

theorem op_append {ρ:Operand→Value} {d:Option Tmp} {pos:String} {af:Array Edge} {g:Option (Nat×Bool)} {x y:Operand} {t t2 ty:TypeId} {v u v':Value} {w w':World} (hx:ρ x=v) (hy:ρ y=u)
  (h:(Builtin.append_ #[t,t2] ty #[v,u]).run P w=.ok v' w'):(execOp ρ ⟨d,.call { callee:=.builtin .append,args:=#[x,y],argTypes:=#[t,t2] },ty,pos,af,g⟩).run P w=.ok (.value v') w':=by
 simp [execOp,resolve,invoke,builtin,hx,hy,h]

/-! make. -/
def Sh.zc:Sh→List Value
 | .int k=>[.int k 0]
 | .bool=>[.bool false]
 | .raw=>[.slice none 0 0]
 | .sl _=>[.slice none 0 0]
 | .pr a b=>a.zc++b.zc
def Sh.zero:(s:Sh)→s.T
 | .int _=>(0:Int)
 | .bool=>false
 | .raw=>Value.slice none 0 0
 | .sl _=>[]
 | .pr a b=>(a.zero,b.zero)
theorem wrap_zero (k:IntKind):k.wrap 0=0:=by cases k<;>decide
theorem Sh.rep_zero (O:List Nat) (w:World): ∀s:Sh,Rep O w s s.zc s.zero
 | .int k=>⟨rfl,wrap_zero k⟩
 | .bool=>rfl
 | .raw=>⟨rfl,rfl⟩
 | .sl _=>⟨none,0,rfl,Nat.le_refl _,by omega,fun h=>absurd h (by simp [Sh.zero])⟩
 | .pr a b=>⟨_,_,rfl,Sh.rep_zero O w a,Sh.rep_zero O w b⟩

theorem made_get {z:Array Value} {n sz j i:Nat} (hz:z.size=sz) (hi:i<n) (hj:j<sz):(madeCells z (n*sz)).toList[i*sz+j]? =z.toList[j]? :=by
 have hlt:i*sz+j<n*sz:=by have h:=Nat.mul_le_mul_right sz (Nat.succ_le_of_lt hi); rw [Nat.succ_mul] at h; omega
 have e:(i*sz+j)%z.size=j:=by rw [hz,Nat.mul_comm,Nat.mul_add_mod,Nat.mod_eq_of_lt hj]
 have hjz:j<z.size:=by omega
 simp [madeCells,hlt,e,hjz]

theorem make_elems {O:List Nat} {w:World} {s:Sh} {z:Array Value} (hz:z.toList=s.zc) (n:Nat):Elems O w s (madeCells z (n*s.n)).toList (List.replicate n s.zero):=by
 have hp:=s.n_pos
 have hl:z.size=s.n:=by have:=(Sh.rep_zero O w s).len; rw [←hz] at this; simpa using this
 refine ⟨by simp [madeCells],fun i x hx=>?_⟩
 have hin:i<n:=by have:=(List.getElem?_eq_some_iff.1 hx).1; simpa using this
 have hx':x=s.zero:=by rw [List.getElem?_replicate] at hx; simp [hin] at hx; exact hx.symm
 subst hx'
 have:((madeCells z (n*s.n)).toList.drop (i*s.n)).take s.n=s.zc:=by
  rw [←hz]
  apply List.ext_getElem?
  intro j
  rcases Nat.lt_or_ge j s.n with hj | hj
  · rw [List.getElem?_take_of_lt hj,List.getElem?_drop,made_get hl hin hj]
  · rw [List.getElem?_eq_none (by rw [List.length_take]; omega),List.getElem?_eq_none (by simpa [hl] using hj)]
 rw [this]
 exact Sh.rep_zero O w s

theorem make_run {O':List Nat} {w:World} {t e:TypeId} {i:TypeInfo} {z:Value} {s:Sh} (ht:P.underlying t=some (.slice e)) (hi:P.info? e=some i) (hz:i.zero=some z)
  (hzs:z.cells.toList=s.zc) (hsz:i.size=s.n) {n:Int} (h0:0≤n) (h63:n≤9223372036854775807) (hb:(i.bytes:Int)*n≤281474976710656):
  ∃w',(Instr.makeSlice t (.int .i64 n) (.int .i64 n)).run P w=.ok (.slice (some ⟨w.heap.size,0,none⟩) n.toNat n.toNat) w'∧
   Own O' w' e s (.slice (some ⟨w.heap.size,0,none⟩) n.toNat n.toNat) (List.replicate n.toNat s.zero) (some w.heap.size)∧Fr (fun _=>False) w w':=by
 have hr:=run_make (P:=P) w t e i z ht hi hz .i64 .i64 n n h0 (Int.le_refl _) hb h63
 refine ⟨_,hr,⟨_,⟨?_,.inr ⟨w.heap.size,0,n.toNat,_,by simp,rfl,Go.heap_alloc_new w _,by simp,by omega,?_,rfl⟩⟩,?_⟩,Fr.alloc w _ _⟩
 · rw [hsz]; simp [madeCells]
 · rw [hsz,size_madeCells]; omega
 ·
  rw [hsz,List.length_replicate]
  have e1:(List.take (n.toNat*s.n) (List.drop 0 (madeCells z.cells (n.toNat*s.n)).toList))=(madeCells z.cells (n.toNat*s.n)).toList:=by
   rw [List.drop_zero]; exact List.take_of_length_le (by simp [madeCells])
  rw [e1]
  exact make_elems hzs _
theorem op_make {ρ:Operand→Value} {d:Option Tmp} {pos:String} {af:Array Edge} {g:Option (Nat×Bool)} {x y:Operand} {t ty:TypeId} {v u v':Value} {w w':World} (hx:ρ x=v) (hy:ρ y=u)
  (h:(Instr.makeSlice t v u).run P w=.ok v' w'):(execOp ρ ⟨d,.makeSlice t x y,ty,pos,af,g⟩).run P w=.ok (.value v') w':=by
 simp [execOp,hx,hy,h]

/-! A SLICE LITERAL. -/
def lits:Nat→List Value→List (Nat×Value)
 | _,[]=>[]
 | k,v::vs=>(k,v)::lits (k+1) vs

theorem set_cells: ∀(c:List Value) (j off:Nat) (A:Array Value),off+j+c.length≤A.size→
  ((c.zipIdx j).foldl (fun cs (p:Value×Nat)=>cs.setIfInBounds (off+p.2) p.1) A).toList=A.toList.take (off+j)++c++A.toList.drop (off+j+c.length)
 | [],j,off,A,_=>by simp
 | x::c,j,off,A,h=>by
  simp only [List.length_cons] at h
  rw [List.zipIdx_cons,List.foldl_cons,set_cells c (j+1) off _ (by simp; omega)]
  simp only [Array.toList_setIfInBounds,List.length_cons]
  have hl:off+j<A.toList.length:=by simp; omega
  rw [show off+(j+1)=off+j+1 by omega,List.take_succ_eq_append_getElem (by simpa using hl),List.getElem_set_self,List.take_set_of_le (Nat.le_refl _),List.drop_set_of_lt (by omega)]
  simp [List.append_assoc,show off+j+1+c.length=off+j+(c.length+1) by omega]

theorem fill_lits {sz n:Nat}: ∀(vs:List Value) (k:Nat) (A:Array Value),A.size=n*sz→k+vs.length=n→(∀v∈vs,v.cells.size=sz)→
  ∃B,Instr.fill (fun k=>some (k*sz,sz)) A (lits k vs)=some B∧B.size=n*sz∧B.toList=A.toList.take (k*sz)++vs.flatMap (·.cells.toList)
 | [],k,A,hA,hk,_=>⟨A,rfl,hA,by
  have h1:k=n:=by simpa using hk
  have:k*sz=A.toList.length:=by rw [h1,←hA]; simp
  rw [this,List.take_length]; simp⟩
 | v::vs,k,A,hA,hk,hv=>by
  simp only [List.length_cons] at hk
  have hvc:v.cells.size=sz:=hv v (by simp)
  have hle:k*sz+sz≤n*sz:=by rw [←Nat.succ_mul]; exact Nat.mul_le_mul_right _ (by omega)
  have hset:=set_cells v.cells.toList 0 (k*sz) A (by simp; omega)
  have hfold:(v.cells.zipIdx.foldl (fun cs (p:Value×Nat)=>cs.setIfInBounds (k*sz+p.2) p.1) A).toList=A.toList.take (k*sz)++v.cells.toList++A.toList.drop (k*sz+sz):=by
   rw [←Array.foldl_toList,Array.toList_zipIdx]
   simpa [hvc] using hset
  have hsz:(v.cells.zipIdx.foldl (fun cs (p:Value×Nat)=>cs.setIfInBounds (k*sz+p.2) p.1) A).size=n*sz:=by
   rw [←Array.length_toList,hfold]
   simp [hvc]
   omega
  obtain ⟨B,h1,h2,h3⟩:=fill_lits vs (k+1) _ hsz (by omega) (fun u hu=>hv u (by simp [hu]))
  refine ⟨B,?_,h2,?_⟩
  ·
   simp only [lits,Instr.fill]
   rw [if_neg (by simp [hvc]; omega)]
   exact h1
  ·
   rw [h3,hfold,List.flatMap_cons,List.append_assoc]
   have e:(List.take (k*sz) A.toList++(v.cells.toList++List.drop (k*sz+sz) A.toList)).take ((k+1)*sz)=List.take (k*sz) A.toList++v.cells.toList:=by
    rw [←List.append_assoc,List.take_append_of_le_length (by simp [hvc,Nat.succ_mul]; omega),List.take_of_length_le (by simp [hvc,Nat.succ_mul]; omega)]
   rw [e,List.append_assoc]

theorem lit_run {O:List Nat} {w:World} {t e:TypeId} {i:TypeInfo} {z:Value} {s:Sh} {vs:List Value} {ps:Array (Nat×Value)} (ht:P.underlying t=some (.slice e)) (hi:P.info? e=some i) (hz:i.zero=some z)
  (hsz:i.size=s.n) (hn:vs.length*s.n≤16777216) (hp:ps.toList=lits 0 vs) (hv: ∀v∈vs,v.cells.size=s.n) {xs:List s.T} (hx:xs.length=vs.length) (hE:Elems O w s (vs.flatMap (·.cells.toList)) xs):
  ∃cs,(Instr.buildSlice t vs.length ps).run P w=.ok (.slice (some ⟨w.heap.size,0,none⟩) vs.length vs.length) (w.alloc (.cells cs e))∧
   Own O (w.alloc (.cells cs e)) e s (.slice (some ⟨w.heap.size,0,none⟩) vs.length vs.length) xs (some w.heap.size):=by
 have hpos:=s.n_pos
 obtain ⟨cs,h1,h2,h3⟩:=fill_lits (sz:=s.n) (n:=vs.length) vs 0 ((Array.range (vs.length*s.n)).map ((if vs.length*s.n=0 then #[] else z.cells)[· %(if vs.length*s.n=0 then #[] else z.cells).size]!)) (by simp) (by simp) hv
 rw [Nat.zero_mul,List.take_zero,List.nil_append] at h3
 have hrun:(Instr.buildSlice t vs.length ps).run P w=.ok (.slice (some ⟨w.heap.size,0,none⟩) vs.length vs.length) (w.alloc (.cells cs e)):=by
  have h24: ¬(16777216<vs.length*s.n):=by omega
  by_cases h0:vs.length*s.n=0
  ·
   rw [if_pos h0] at h1
   simp only [Instr.buildSlice,Sem.run_bind,run_underlying ht,Result.andThen_ok]
   simp [sizeOf,typeInfo,hi,hsz,hp,h0] at h1⊢
   simp [h1,newRow]
  ·
   rw [if_neg h0] at h1
   simp only [Instr.buildSlice,Sem.run_bind,run_underlying ht,Result.andThen_ok]
   simp [sizeOf,typeInfo,zeroValue,hi,hz,hsz,h24,hp,h0] at h1⊢
   simp [h1,newRow]
 refine ⟨cs,hrun,_,⟨by rw [hx,←h2,←Array.length_toList,h3],.inr ⟨w.heap.size,0,vs.length,cs,by rw [hx],rfl,Go.heap_alloc_new w _,by omega,?_,by omega,?_⟩⟩,hE.step (Fr.alloc w (fun _=>False) _) (fun _ h=>h.elim) (fun k hk=>.inl hk)⟩
 · have:=Nat.mul_le_mul_left vs.length hpos; omega
 · rw [List.drop_zero,hx,←h2,←h3,←Array.length_toList,List.take_length]
theorem op_lit {ρ:Operand→Value} {d:Option Tmp} {pos:String} {af:Array Edge} {g:Option (Nat×Bool)} {ps:Array (Nat×Operand)} {n:Nat} {t ty:TypeId} {v':Value} {w w':World}
  (h:(Instr.buildSlice t n (ps.map fun (i,x)=>(i,ρ x))).run P w=.ok v' w'):(execOp ρ ⟨d,.buildSlice t n ps,ty,pos,af,g⟩).run P w=.ok (.value v') w':=by
 simp [execOp,h]
theorem Elems.nil (O:List Nat) (w:World) (s:Sh):Elems O w s [] []:=⟨by simp,by simp⟩
theorem Elems.cons {O:List Nat} {w:World} {s:Sh} {c cs:List Value} {x:s.T} {xs:List s.T} (h:Rep O w s c x) (k:Elems O w s cs xs):Elems O w s (c++cs) (x::xs):=by
 have hl:=h.len
 refine ⟨by rw [List.length_append,hl,k.1,List.length_cons,Nat.succ_mul]; omega,fun i y hy=>?_⟩
 cases i with
 | zero=>
  simp at hy
  subst hy
  rw [Nat.zero_mul,List.drop_zero,List.take_append_of_le_length (by omega),List.take_of_length_le (by omega)]
  exact h
 | succ i=>
  have:=k.2 i y (by simpa using hy)
  rw [Nat.succ_mul,Nat.add_comm,←hl,←List.drop_drop,List.drop_append,List.drop_eq_nil_of_le (Nat.le_refl _),List.nil_append,Nat.sub_self,List.drop_zero,hl]
  exact this

/-! Stores into a row. -/
theorem Elems.set {O:List Nat} {w:World} {s:Sh} {cs:List Value} {xs:List s.T} (h:Elems O w s cs xs) (hn:s.n=1) {i:Nat} {x:s.T} {u:Value} (hx:Rep O w s [u] x):Elems O w s (cs.set i u) (xs.set i x):=by
 refine ⟨by rw [List.length_set,List.length_set]; exact h.1,fun j y hy=>?_⟩
 rw [hn,Nat.mul_one]
 by_cases hij:i=j
 ·
  subst hij
  have hlt:i<xs.length:=by have:=(List.getElem?_eq_some_iff.1 hy).1; simpa using this
  rw [List.getElem?_set_self hlt] at hy
  injection hy with hy
  subst hy
  have hlc:i<cs.length:=by have:=h.1; rw [hn] at this; omega
  have:((cs.set i u).drop i).take 1=[u]:=by
   rw [List.drop_eq_getElem_cons (by simpa using hlc)]
   simp
  rw [this]; exact hx
 ·
  rw [List.getElem?_set_ne hij] at hy
  have hr:=h.2 j y hy
  rw [hn,Nat.mul_one] at hr
  have:((cs.set i u).drop j).take 1=(cs.drop j).take 1:=by
   apply List.ext_getElem?
   intro k
   rcases Nat.lt_or_ge k 1 with hk | hk
   ·
    obtain rfl:k=0:=by omega
    rw [List.getElem?_take_of_lt (by omega),List.getElem?_take_of_lt (by omega),List.getElem?_drop,List.getElem?_drop,List.getElem?_set_ne (by omega)]
   · rw [List.getElem?_take_eq_none hk,List.getElem?_take_eq_none hk]
  rw [this]; exact hr

theorem store_run {O:List Nat} {w:World} {e:TypeId} {s:Sh} (hn:s.n=1) {A:Option Addr} {m c:Nat} {xs:List s.T} {G:Option Nat} (hown:Own O w e s (.slice A m c) xs G) (hG: ∀g,G=some g→g∈O)
  {i:Nat} (hi:i<xs.length) {x:s.T} {u:Value} (hu:Rep O w s [u] x):
  ∃ad,A=some ad∧(∃o,w.cell? (ad.add (i*s.n))=some o)∧w.frozen? (ad.add (i*s.n))=false∧
   Own O (w.setCell (ad.add (i*s.n)) u) e s (.slice A m c) (xs.set i x) G∧Fr (fun k=>G=some k) w (w.setCell (ad.add (i*s.n)) u):=by
 obtain ⟨cs,h1,h2⟩:=hown
 rcases h1.2 with ⟨h0,h00,_⟩ | ⟨g,o,cap,cur,hv,hg,hb,hnc,hcm,hsz,ht⟩
 · omega
 ·
  injection hv with hA hm hc
  subst hA hm hc hg
  have hlen:cs.length=xs.length:=by rw [h2.1,hn,Nat.mul_one]
  have hoi:o+i<cur.size:=by rw [hn] at hsz; omega
  have hfr:Fr (fun k=>some g=some k) w (w.setCell ⟨g,o+i,none⟩ u):=Fr.setCell (S:=fun k=>some g=some k) w (.inl rfl) u
  refine ⟨⟨g,o,none⟩,rfl,?_⟩
  simp only [hn,Nat.mul_one,add_lit]
  refine ⟨⟨cur[o+i],?_⟩,frozen_of_row w g _ cur e hb,⟨cs.set i u,⟨?_,.inr ⟨g,o,c,cur.setIfInBounds (o+i) u,by rw [List.length_set],rfl,?_,by rw [List.length_set]; exact hnc,hcm,by simpa using hsz,?_⟩⟩,?_⟩,hfr⟩
  · rw [cell_of_row w g _ cur e (0,0) hb]; exact Array.getElem?_eq_getElem hoi
  · rw [List.length_set,List.length_set]; exact h1.1
  · rw [setCell_eq_setRow w g (o+i) cur e (0,0) u hb]; exact setRow_heap w g cur _ e _ hb
  ·
   rw [List.length_set,←ht]
   apply List.ext_getElem?
   intro j
   rw [hn,Nat.mul_one]
   rcases Nat.lt_or_ge j xs.length with hj | hj
   ·
    rw [List.getElem?_take_of_lt hj,List.getElem?_drop]
    by_cases hij:i=j
    ·
     subst hij
     rw [List.getElem?_set_self (by rw [List.length_take,List.length_drop]; simp; omega)]
     simp [hoi]
    ·
     rw [List.getElem?_set_ne hij,List.getElem?_take_of_lt hj,List.getElem?_drop]
     rw [Array.toList_setIfInBounds,List.getElem?_set_ne (by omega)]
   · rw [List.getElem?_eq_none (by rw [List.length_take]; omega),List.getElem?_eq_none (by rw [List.length_set,List.length_take]; omega)]
  · exact (h2.set hn hu).step hfr (fun k hk=>hG k hk) (fun k hk=>.inl hk)

/-! Boxes. -/
def Blk (w:World) (g:Nat) (t:TypeId) (cs:List Value):Prop:=w.heap[g]? =some (.cells cs.toArray t (0,0))
theorem Blk.lt {w:World} {g:Nat} {t:TypeId} {cs:List Value} (h:Blk w g t cs):g<w.heap.size:=(Array.getElem?_eq_some_iff.1 h).1
theorem Blk.fr {w w':World} {g:Nat} {t:TypeId} {cs:List Value} {S:Nat→Prop} (h:Blk w g t cs) (hf:Fr S w w') (hn: ¬S g):Blk w' g t cs:=(hf.block g h.lt hn).trans h
theorem Blk.cell {w:World} {g:Nat} {t:TypeId} {cs:List Value} (h:Blk w g t cs) {j:Nat} {u:Value} (hu:cs[j]? =some u):w.cell? ((⟨g,0,none⟩:Addr).add j)=some u:=by
 rw [add_lit,cell_of_row w g _ _ t (0,0) h]; simpa using hu
theorem Blk.frozen {w:World} {g:Nat} {t:TypeId} {cs:List Value} (h:Blk w g t cs) (j:Nat):w.frozen? ((⟨g,0,none⟩:Addr).add j)=false:=by
 rw [add_lit]; exact frozen_of_row w g _ _ t h
theorem Blk.new (w:World) (t:TypeId) (cs:List Value):Blk (w.alloc (.cells cs.toArray t)) w.heap.size t cs:=Go.heap_alloc_new w _
theorem Blk.set {w:World} {g:Nat} {t:TypeId} {cs:List Value} (h:Blk w g t cs) (j:Nat) (u:Value):Blk (w.setCell ((⟨g,0,none⟩:Addr).add j) u) g t (cs.set j u):=by
 rw [add_lit]
 unfold Blk
 rw [setCell_eq_setRow w g _ _ t (0,0) u h,Nat.zero_add]
 have:=setRow_heap w g cs.toArray (cs.toArray.setIfInBounds j u) t (0,0) h
 rw [this]
 simp
theorem Blk.setAll {w:World} {g:Nat} {t:TypeId} {cs:List Value} (h:Blk w g t cs) (ds:List Value):Blk (w.setRow g ds.toArray) g t ds:=setRow_heap w g _ _ t _ h

variable {ρ : Operand → Value} {d : Option Tmp} {ty : TypeId} {pos : String} {af : Array Edge} {g : Option (Nat × Bool)} {x y : Operand}
theorem op_box {e:TypeId} {v:Value} {w:World} (hx:ρ x=v) {cs:List Value} (hv:v.cells=cs.toArray):
  (execOp ρ ⟨d,.box e x,ty,pos,af,g⟩).run P w=.ok (.value (.pointer (some ⟨w.heap.size,0,none⟩))) (w.alloc (.cells cs.toArray e)):=by
 simp [execOp,hx,Instr.box,newVar,newRow,hv]
theorem op_alloc {e:TypeId} {z:Value} {w:World} (hz: ∀w,(zeroValue e).run P w=.ok z w) {cs:List Value} (hv:z.cells=cs.toArray):
  (execOp ρ ⟨d,.alloc e,ty,pos,af,g⟩).run P w=.ok (.value (.pointer (some ⟨w.heap.size,0,none⟩))) (w.alloc (.cells cs.toArray e)):=by
 simp [execOp,Instr.alloc,hz,newVar,newRow,hv]
theorem qbg {e te:TypeId} {gb:Nat} {cs:List Value} {w:World} (hb:Blk w gb te cs) (hg: ∀w,(isAgg e).run P w=.ok true w) (hs: ∀w,(sizeOf e).run P w=.ok cs.length w) (hx:ρ x=.pointer (some ⟨gb,0,none⟩)):
  Yv P ρ ⟨d,.load e x,ty,pos,af,g⟩ w (.agg cs.toArray):=ld_agg hg hs hx rfl fun _ _ hu=>hb.cell hu
theorem qar {e te:TypeId} {gb k:Nat} {cs:List Value} {u:Value} {w:World} (hb:Blk w gb te cs) (hg: ∀w,(isAgg e).run P w=.ok false w) (hx:ρ x=.pointer (some ((⟨gb,0,none⟩:Addr).add k))) (hu:cs[k]? =some u):
  Yv P ρ ⟨d,.load e x,ty,pos,af,g⟩ w u:=qaf hg hx (hb.cell hu)
theorem st_fld {e te:TypeId} {gb k:Nat} {cs:List Value} {u v:Value} {w:World} (hb:Blk w gb te cs) (hs: ∀w,(sizeOf e).run P w=.ok 1 w) (h1:v.oneCell'=true) (hx:ρ x=.pointer (some ((⟨gb,0,none⟩:Addr).add k))) (hy:ρ y=v) (hu:cs[k]? =some u):
  (execOp ρ ⟨d,.store e x y,ty,pos,af,g⟩).run P w=.ok .skip (w.setCell ((⟨gb,0,none⟩:Addr).add k) v):=st_one hs h1 hx hy (hb.cell hu) (hb.frozen k)
theorem st_blk {e te:TypeId} {i:TypeInfo} {gb:Nat} {cs ds:List Value} {w:World} (hb:Blk w gb te cs) (hi:P.info? e=some i) (hs:i.size=ds.length) (hl:cs.length=ds.length) (h1:ds.all (·.oneCell')=true) (hx:ρ x=.pointer (some ⟨gb,0,none⟩)) (hy:ρ y=.agg ds.toArray):
  (execOp ρ ⟨d,.store e x y,ty,pos,af,g⟩).run P w=.ok .skip (w.setRow gb ds.toArray):=by
 have:=run_storeVar_row (P:=P) w gb te e cs.toArray ds.toArray hb (by simp [hi,hs]) (by simpa using hl) (by simpa using h1)
 simp [execOp,hx,hy,Instr.storeAt,Instr.sureAddr,this]

/-! Calls. -/
theorem qap {f:FuncId} {c:Call} {vs:List Value} {w:World} (hc: ∀args w,(callFunc f args).run P w=.ok (.enter f args) w) (ho:c.callee=.value (.func f)) (hf:ρ (.func f)=.func (.func f) #[] #[]) (ha:c.args.toList.map ρ=vs):
  (execOp ρ ⟨d,.call c,ty,pos,af,g⟩).run P w=.ok (.enter f vs.toArray) w:=by
 have e:c.args.map ρ=vs.toArray:=Array.ext' (by rw [Array.toList_map]; exact ha)
 simp [execOp,resolve,ho,hf,e,Deferred.ofValue,invoke,hc]
theorem qcu {f:FuncId} {c:Call} {q:Operand} {fi ca:Array Value} {vs:List Value} {w:World} (hc: ∀args w,(callFunc f args).run P w=.ok (.enter f args) w) (ho:c.callee=.value q) (hf:ρ q=.func (.func f) fi ca) (ha:fi.toList++c.args.toList.map ρ++ca.toList=vs):
  (execOp ρ ⟨d,.call c,ty,pos,af,g⟩).run P w=.ok (.enter f vs.toArray) w:=by
 have e:fi++c.args.map ρ++ca=vs.toArray:=Array.ext' (by rw [Array.toList_append,Array.toList_append,Array.toList_map]; exact ha)
 simp [execOp,resolve,ho,hf,Deferred.ofValue,invoke,hc,←e]
end

/-! Skips. -/
section
variable {P : Program} {ops : Array Oper} {K : Env → World → Prop} {o : Oper} {rest : List Oper} {C : Frm} {E : Env} {w w' : World}
theorem lex.gskp (hw:wantE ops E o=true) (h:(execOp E.ev o).run P w=.ok .skip w') (hk:lex P ops K rest (E.put o.dst undef) w'):lex P ops K (o::rest) E w:=by
 simp only [lex,hw,if_true]
 unfold wpV; rw [h]; exact hk
theorem lex.skp (h:(execOp E.ev o).run P w=.ok .skip w') (hk:lex P ops K rest (E.put o.dst undef) w') (hg:o.guard=none:=by rfl):lex P ops K (o::rest) E w:=
 lex.gskp (by unfold wantE Region.wanted; rw [hg]) h hk
theorem mixE.skp (hd:C.d w) (h:(execOp E.ev o).run P w=.ok .skip w') (hd':C.d w') (hk:mixE P ops C K rest (E.put o.dst undef) w') (hg:o.guard=none:=by rfl) (hk0:kdS C.S o=.hard:=by rfl):mixE P ops C K (o::rest) E w:=by
 have hw:wantE ops E o=true:=by unfold wantE Region.wanted; rw [hg]
 simp only [mixE,oneE,hw,if_true,hk0]
 refine ⟨hd,?_⟩
 unfold wpV; rw [h]; exact ⟨hd',hk⟩
theorem qei {j:Nat} {q b:Bool} {t:Tmp} (hg:o.guard=some (j,q)) (hd:(ops[j]?).bind (·.dst)=some t) (hv:E t=.bool b) (hb:b=q):wantE ops E o=true:=by
 unfold wantE Region.wanted; rw [hg]; simp [yE,hd,hv,hb]
theorem want_f {j:Nat} {q b:Bool} {t:Tmp} (hg:o.guard=some (j,q)) (hd:(ops[j]?).bind (·.dst)=some t) (hv:E t=.bool b) (hb:b=!q):wantE ops E o=false:=by
 unfold wantE Region.wanted; rw [hg]; simp [yE,hd,hv,hb]
theorem qdn {j:Nat} {q:Bool} {t:Tmp} (hg:o.guard=some (j,q)) (hd:(ops[j]?).bind (·.dst)=some t) (hv:E t=undef):wantE ops E o=false:=by
 unfold wantE Region.wanted; rw [hg]; simp [yE,hd,hv,undef]
end
theorem cT {α:Type} {b:Bool} {x y:α} (h:b=true):cond b x y=x:=by rw [h]; rfl
theorem cF {α:Type} {b:Bool} {x y:α} (h:b=false):cond b x y=y:=by rw [h]; rfl
