import Derived.Test.YtpnppjlnfhlmpaaGreatOps
namespace Go.Proofs.YtpnppjlnfhlmpaaGreat
namespace Ev
open Go.RowKit (Below)

inductive Sh where
 | int (k:IntKind)
 | bool
 | sl (s:Sh)
 | pr (a b:Sh)
  | raw

@[reducible] def Sh.T:Sh→Type
 | .int _=>Int
 | .bool=>Bool
 | .sl s=>List s.T
 | .pr a b=>a.T×b.T
 | .raw=>Value

def Sh.n:Sh→Nat
 | .pr a b=>a.n+b.n
 | _=>1

theorem Sh.n_pos: ∀s:Sh,0<s.n
 | .int _=>Nat.one_pos
 | .bool=>Nat.one_pos
 | .sl _=>Nat.one_pos
 | .pr a _=>Nat.lt_of_lt_of_le a.n_pos (Nat.le_add_right _ _)
 | .raw=>Nat.one_pos

def Rep (O:List Nat) (w:World):(s:Sh)→List Value→s.T→Prop
 | .int k,cs,x=>cs=[.int k x]∧k.wrap x=x
 | .bool,cs,x=>cs=[.bool x]
 | .sl s,cs,xs=> ∃A c,cs=[.slice A xs.length c]∧xs.length≤c∧c≤9223372036854775807∧(0<xs.length→∃ad,A=some ad∧ad.block∉O∧
   ∀i x,xs[i]? =some x→∃cs',(∀j u,cs'[j]? =some u→w.cell? (ad.add (i*s.n+j))=some u)∧Rep O w s cs' x)
 | .pr a b,cs,x=> ∃c1 c2,cs=c1++c2∧Rep O w a c1 x.1∧Rep O w b c2 x.2
 | .raw,cs,x=>cs=[x]∧x.oneCell'=true

theorem add_block (a:Addr) (n:Nat):(a.add n).block=a.block:=by unfold Addr.add; split<;>rfl

theorem Rep.len {O:List Nat} {w:World}: ∀{s:Sh} {cs:List Value} {x:s.T},Rep O w s cs x→cs.length=s.n
 | .int _,_,_,h=>by rw [h.1]; rfl
 | .bool,_,_,h=>by rw [show _=_ from h]; rfl
 | .sl _,_,_,h=>by obtain ⟨A,c,rfl,_⟩:=h; rfl
 | .pr _ _,_,_,h=>by obtain ⟨c1,c2,rfl,h1,h2⟩:=h; rw [List.length_append,h1.len,h2.len]; rfl
 | .raw,_,_,h=>by rw [h.1]; rfl

theorem Rep.one {O:List Nat} {w:World}: ∀{s:Sh} {cs:List Value} {x:s.T},Rep O w s cs x→∀u∈cs,u.oneCell'=true
 | .int _,_,_,h,u,hu=>by rw [h.1] at hu; simp at hu; subst hu; rfl
 | .bool,_,_,h,u,hu=>by rw [show _=_ from h] at hu; simp at hu; subst hu; rfl
 | .sl _,_,_,h,u,hu=>by obtain ⟨A,c,rfl,_⟩:=h; simp at hu; subst hu; rfl
 | .pr _ _,_,_,h,u,hu=>by
  obtain ⟨c1,c2,rfl,h1,h2⟩:=h
  rcases List.mem_append.1 hu with h | h
  · exact h1.one u h
  · exact h2.one u h
 | .raw,_,_,h,u,hu=>by rw [h.1] at hu; simp at hu; subst hu; exact h.2

structure Fr (S:Nat→Prop) (w w':World):Prop where
 os:w'.os=w.os
 tape:w'.tape=w.tape
 output:w'.output=w.output
 size:w.heap.size≤w'.heap.size
 block: ∀k,k<w.heap.size→¬S k→w'.heap[k]? =w.heap[k]?
 drawn:w.drawn≤w'.drawn

theorem Fr.refl (S:Nat→Prop) (w:World):Fr S w w:=⟨rfl,rfl,rfl,Nat.le_refl _,fun _ _ _=>rfl,Nat.le_refl _⟩
theorem Fr.trans {S:Nat→Prop} {a b c:World} (h:Fr S a b) (k:Fr S b c):Fr S a c:=
 ⟨k.os.trans h.os,k.tape.trans h.tape,k.output.trans h.output,Nat.le_trans h.size k.size,fun i hi hn=>(k.block i (Nat.lt_of_lt_of_le hi h.size) hn).trans (h.block i hi hn),Nat.le_trans h.drawn k.drawn⟩
theorem Fr.trans' {S S':Nat→Prop} {a b c:World} (h:Fr S a b) (k:Fr S' b c) (hs: ∀i,i<a.heap.size→S' i→S i):Fr S a c:=
 ⟨k.os.trans h.os,k.tape.trans h.tape,k.output.trans h.output,Nat.le_trans h.size k.size,fun i hi hn=>(k.block i (Nat.lt_of_lt_of_le hi h.size) (fun hs'=>hn (hs i hi hs'))).trans (h.block i hi hn),Nat.le_trans h.drawn k.drawn⟩
theorem Fr.mono {S S':Nat→Prop} {a b:World} (h:Fr S a b) (hs: ∀i,i<a.heap.size→S i→S' i):Fr S' a b:=
 ⟨h.os,h.tape,h.output,h.size,fun i hi hn=>h.block i hi fun hs'=>hn (hs i hi hs'),h.drawn⟩
theorem Fr.drew (w:World) (S:Nat→Prop):Fr S w w.drew:=⟨rfl,rfl,rfl,Nat.le_refl _,fun _ _ _=>rfl,Nat.le_succ _⟩
theorem Fr.alloc (w:World) (S:Nat→Prop) (o:Obj):Fr S w (w.alloc o):=⟨rfl,rfl,rfl,by simp,fun i hi _=>Below.heap_alloc w o i hi,Nat.le_refl _⟩
theorem Fr.setCell (w:World) {S:Nat→Prop} {p:Addr} (hp:S p.block∨w.heap.size≤p.block) (u:Value):Fr S w (w.setCell p u):=
 ⟨rfl,rfl,rfl,by simp,fun i hi hn=>heap_setCell_other w p i u (fun e=>by subst e; rcases hp with h | h; exact hn h; omega),Nat.le_refl _⟩
theorem Fr.setRow (w:World) {S:Nat→Prop} {g:Nat} (hp:S g∨w.heap.size≤g) (cs:Array Value):Fr S w (w.setRow g cs):=
 ⟨rfl,rfl,rfl,by simp,fun i hi hn=>setRow_other w g i cs (fun e=>by subst e; rcases hp with h | h; exact hn h; omega),Nat.le_refl _⟩
theorem Fr.cell {S:Nat→Prop} {w w':World} (h:Fr S w w') {p:Addr} {v:Value} (hc:w.cell? p=some v) (hn: ¬S p.block):w'.cell? p=some v:=
 (World.cell?_of_block (w:=w) (h.block p.block (World.block_lt_of_cell? _ _ hc) hn)).trans hc

theorem Rep.fr {O:List Nat} {w w':World} {S:Nat→Prop} (h:Fr S w w') (hs: ∀k,S k→k∈O): ∀{s:Sh} {cs:List Value} {x:s.T},Rep O w s cs x→Rep O w' s cs x
 | .int _,_,_,hr=>hr
 | .bool,_,_,hr=>hr
 | .sl s,_,_,hr=>by
  obtain ⟨A,c,h1,h2,h3,h4⟩:=hr
  refine ⟨A,c,h1,h2,h3,fun hp=>?_⟩
  obtain ⟨ad,hA,hO,hi⟩:=h4 hp
  refine ⟨ad,hA,hO,fun i x hx=>?_⟩
  obtain ⟨cs',hc,hr'⟩:=hi i x hx
  exact ⟨cs',fun j u hu=>h.cell (hc j u hu) (by rw [add_block]; exact fun hS=>hO (hs _ hS)),Rep.fr h hs hr'⟩
 | .pr _ _,_,_,hr=>by
  obtain ⟨c1,c2,h1,h2,h3⟩:=hr
  exact ⟨c1,c2,h1,Rep.fr h hs h2,Rep.fr h hs h3⟩
 | .raw,_,_,hr=>hr

theorem Rep.sub {O O':List Nat} {w:World} (ho: ∀k∈O',k∈O∨w.heap.size≤k): ∀{s:Sh} {cs:List Value} {x:s.T},Rep O w s cs x→Rep O' w s cs x
 | .int _,_,_,hr=>hr
 | .bool,_,_,hr=>hr
 | .sl s,_,_,hr=>by
  obtain ⟨A,c,h1,h2,h3,h4⟩:=hr
  refine ⟨A,c,h1,h2,h3,fun hp=>?_⟩
  obtain ⟨ad,hA,hO,hi⟩:=h4 hp
  refine ⟨ad,hA,fun hin=>?_,fun i x hx=>?_⟩
  ·
   rcases ho _ hin with h | h
   · exact hO h
   ·
    obtain ⟨x,hx⟩: ∃x,(_:List s.T)[0]? =some x:=⟨_,List.getElem?_eq_getElem hp⟩
    obtain ⟨cs',hc,hr'⟩:=hi 0 x hx
    have hl:=hr'.len
    have hpos:=s.n_pos
    obtain ⟨u,hu⟩: ∃u,cs'[0]? =some u:=⟨_,List.getElem?_eq_getElem (by omega)⟩
    have:=World.block_lt_of_cell? _ _ (hc 0 u hu)
    rw [add_block] at this
    omega
  ·
   obtain ⟨cs',hc,hr'⟩:=hi i x hx
   exact ⟨cs',hc,Rep.sub ho hr'⟩
 | .pr _ _,_,_,hr=>by
  obtain ⟨c1,c2,h1,h2,h3⟩:=hr
  exact ⟨c1,c2,h1,Rep.sub ho h2,Rep.sub ho h3⟩
 | .raw,_,_,hr=>hr

theorem Rep.step {O O':List Nat} {w w':World} {S:Nat→Prop} (h:Fr S w w') (hs: ∀k,S k→k∈O) (ho: ∀k∈O',k∈O∨w.heap.size≤k) {s:Sh} {cs:List Value} {x:s.T} (hr:Rep O w s cs x):Rep O' w' s cs x:=by
 -- first let O grow in w,then go over to w'
 have h1:Rep (O++O') w s cs x:=Rep.sub (fun k hk=>by rcases List.mem_append.1 hk with h | h; exact .inl h; exact ho k h) hr
 have h2:Rep (O++O') w' s cs x:=Rep.fr h (fun k hk=>List.mem_append_left _ (hs k hk)) h1
 exact Rep.sub (fun k hk=>.inl (List.mem_append_right _ hk)) h2

/-! Rows that the call owns:cells first. -/
def OwnC (w:World) (e:TypeId) (size:Nat) (v:Value) (n:Nat) (xs:List Value) (G:Option Nat):Prop:=
 xs.length=n*size∧
 ((v=.slice none 0 0∧n=0∧G=none)∨
 ∃g o cap cur,v=.slice (some ⟨g,o,none⟩) n cap∧G=some g∧w.heap[g]? =some (.cells cur e (0,0))∧n≤cap∧cap≤9223372036854775807∧o+cap*size≤cur.size∧(cur.toList.drop o).take (n*size)=xs)

def Elems (O:List Nat) (w:World) (s:Sh) (cs:List Value) (xs:List s.T):Prop:=
 cs.length=xs.length*s.n∧∀i x,xs[i]? =some x→Rep O w s ((cs.drop (i*s.n)).take s.n) x

def Own (O:List Nat) (w:World) (e:TypeId) (s:Sh) (v:Value) (xs:List s.T) (G:Option Nat):Prop:=
 ∃cs,OwnC w e s.n v xs.length cs G∧Elems O w s cs xs

theorem Own.nil (O:List Nat) (w:World) (e:TypeId) (s:Sh):Own O w e s (.slice none 0 0) [] none:=
 ⟨[],⟨by simp,.inl ⟨rfl,rfl,rfl⟩⟩,by simp,by simp⟩

theorem OwnC.lt {w:World} {e:TypeId} {size n:Nat} {v:Value} {xs:List Value} {G:Option Nat} (h:OwnC w e size v n xs G) {g:Nat} (hg:G=some g):g<w.heap.size:=by
 rcases h.2 with ⟨_,_,h0⟩ | ⟨g',o,cap,cur,_,h1,h2,_⟩
 · rw [h0] at hg; cases hg
 ·
  rw [h1] at hg; injection hg with hg; subst hg
  exact (Array.getElem?_eq_some_iff.1 h2).1
theorem Own.lt {O:List Nat} {w:World} {e:TypeId} {s:Sh} {v:Value} {xs:List s.T} {G:Option Nat} (h:Own O w e s v xs G) {g:Nat} (hg:G=some g):g<w.heap.size:=by
 obtain ⟨cs,h1,_⟩:=h
 exact h1.lt hg

theorem OwnC.fr {w w':World} {e:TypeId} {size n:Nat} {v:Value} {xs:List Value} {G:Option Nat} {S:Nat→Prop} (h:OwnC w e size v n xs G) (hf:Fr S w w') (hg: ∀g,G=some g→¬S g):OwnC w' e size v n xs G:=by
 refine ⟨h.1,?_⟩
 rcases h.2 with h0 | ⟨g,o,cap,cur,h1,h2,h3,h4⟩
 · exact .inl h0
 · exact .inr ⟨g,o,cap,cur,h1,h2,(hf.block g (Array.getElem?_eq_some_iff.1 h3).1 (hg g h2)).trans h3,h4⟩

theorem Elems.step {O O':List Nat} {w w':World} {S:Nat→Prop} {s:Sh} {cs:List Value} {xs:List s.T} (h:Elems O w s cs xs) (hf:Fr S w w') (hs: ∀k,S k→k∈O) (ho: ∀k∈O',k∈O∨w.heap.size≤k):Elems O' w' s cs xs:=
 ⟨h.1,fun i x hx=>Rep.step hf hs ho (h.2 i x hx)⟩

theorem Own.step {O O':List Nat} {w w':World} {S:Nat→Prop} {e:TypeId} {s:Sh} {v:Value} {xs:List s.T} {G:Option Nat} (h:Own O w e s v xs G) (hf:Fr S w w') (hs: ∀k,S k→k∈O) (ho: ∀k∈O',k∈O∨w.heap.size≤k) (hg: ∀g,G=some g→¬S g):Own O' w' e s v xs G:=by
 obtain ⟨cs,h1,h2⟩:=h
 exact ⟨cs,h1.fr hf hg,h2.step hf hs ho⟩

theorem add_lit (g o n:Nat):(⟨g,o,none⟩:Addr).add n=⟨g,o+n,none⟩:=Addr.add_lit g o n
theorem add_add (a:Addr) (i j:Nat):(a.add i).add j=a.add (i+j):=by
 unfold Addr.add
 by_cases hi:i=0<;>by_cases hj:j=0<;>simp [hi,hj,Nat.add_assoc]

theorem OwnC.cell {w:World} {e:TypeId} {size n:Nat} {xs:List Value} {G:Option Nat} {v:Value} (h:OwnC w e size v n xs G) {ad:Addr} {m c:Nat} (hv:v=.slice (some ad) m c) {j:Nat} {u:Value} (hu:xs[j]? =some u):w.cell? (ad.add j)=some u:=by
 rcases h.2 with ⟨h0,_⟩ | ⟨g,o,cap,cur,h1,h2,h3,_,_,_,h5⟩
 · rw [h0] at hv; cases hv
 ·
  rw [h1] at hv
  injection hv with hA _ _
  injection hA with hA
  subst hA
  rw [add_lit,cell_of_row w g (o+j) cur e (0,0) h3]
  have:((cur.toList.drop o).take (n*size))[j]? =some u:=by rw [h5]; exact hu
  have hlt:j<n*size:=by
   have:=(List.getElem?_eq_some_iff.1 this).1
   rw [List.length_take] at this
   omega
  rw [List.getElem?_take_of_lt hlt,List.getElem?_drop] at this
  simpa using this

theorem Own.freeze {O O':List Nat} {w:World} {e:TypeId} {s:Sh} {v:Value} {xs:List s.T} {G:Option Nat} (h:Own O w e s v xs G) (ho: ∀k∈O',k∈O∨w.heap.size≤k) (hg: ∀g,G=some g→g∉O'):Rep O' w (.sl s) [v] xs:=by
 obtain ⟨cs,h1,h2,h3⟩:=h
 have h1':=h1
 rcases h1.2 with ⟨h0,h00,_⟩ | ⟨g,o,cap,cur,hv,hG,hb,hn,hc,hsz,ht⟩
 ·
  have:xs=[]:=List.eq_nil_of_length_eq_zero h00
  subst this
  subst h0
  exact ⟨none,0,rfl,Nat.le_refl _,by omega,fun h=>absurd h (by simp)⟩
 ·
  subst hv
  refine ⟨some ⟨g,o,none⟩,cap,rfl,hn,hc,fun _=>⟨_,rfl,hg g hG,fun i x hx=>⟨_,fun j u hu=>?_,Rep.sub ho (h3 i x hx)⟩⟩⟩
  refine h1'.cell rfl ?_
  have hlt:j<s.n:=by
   have:=(List.getElem?_eq_some_iff.1 hu).1
   rw [List.length_take] at this
   omega
  rw [List.getElem?_take_of_lt hlt,List.getElem?_drop] at hu
  exact hu

/-! Reading an element. -/
theorem Rep.sl_form {O:List Nat} {w:World} {s:Sh} {v:Value} {xs:List s.T} (h:Rep O w (.sl s) [v] xs): ∃A c,v=.slice A xs.length c∧xs.length≤c∧c≤9223372036854775807:=by
 obtain ⟨A,c,h1,h2,h3,_⟩:=h
 injection h1 with h1
 exact ⟨A,c,h1,h2,h3⟩
theorem Own.form {O:List Nat} {w:World} {e:TypeId} {s:Sh} {v:Value} {xs:List s.T} {G:Option Nat} (h:Own O w e s v xs G): ∃A c,v=.slice A xs.length c∧xs.length≤c∧c≤9223372036854775807:=by
 obtain ⟨cs,h1,_⟩:=h
 rcases h1.2 with ⟨h0,h00,_⟩ | ⟨g,o,cap,cur,hv,_,_,hn,hc,_,_⟩
 · exact ⟨none,0,by rw [h0,h00],by omega,by omega⟩
 · exact ⟨_,_,hv,hn,hc⟩

theorem Rep.at_ {O:List Nat} {w:World} {s:Sh} {A:Option Addr} {m c:Nat} {xs:List s.T} (h:Rep O w (.sl s) [.slice A m c] xs) {i:Nat} {x:s.T} (hx:xs[i]? =some x):
  ∃ad cs,A=some ad∧(∀j u,cs[j]? =some u→w.cell? ((ad.add (i*s.n)).add j)=some u)∧Rep O w s cs x:=by
 obtain ⟨A',c',h1,h2,h3,h4⟩:=h
 injection h1 with h1
 injection h1 with hA _ _
 subst hA
 obtain ⟨ad,hA,_,hi⟩:=h4 (by have:=(List.getElem?_eq_some_iff.1 hx).1; omega)
 obtain ⟨cs,hc,hr⟩:=hi i x hx
 exact ⟨ad,cs,hA,fun j u hu=>by rw [add_add]; exact hc j u hu,hr⟩

theorem Own.at_ {O:List Nat} {w:World} {e:TypeId} {s:Sh} {A:Option Addr} {m c:Nat} {xs:List s.T} {G:Option Nat} (h:Own O w e s (.slice A m c) xs G) {i:Nat} {x:s.T} (hx:xs[i]? =some x):
  ∃ad cs,A=some ad∧(∀j u,cs[j]? =some u→w.cell? ((ad.add (i*s.n)).add j)=some u)∧Rep O w s cs x:=by
 obtain ⟨cs,h1,h2,h3⟩:=h
 rcases h1.2 with ⟨h0,h00,_⟩ | ⟨g,o,cap,cur,hv,hG,hb,hn,hc,hsz,ht⟩
 · have:=(List.getElem?_eq_some_iff.1 hx).1; omega
 ·
  injection hv with hA _ _
  subst hA
  refine ⟨_,_,rfl,fun j u hu=>?_,h3 i x hx⟩
  rw [add_add]
  refine h1.cell rfl ?_
  have hlt:j<s.n:=by
   have:=(List.getElem?_eq_some_iff.1 hu).1
   rw [List.length_take] at this
   omega
  rw [List.getElem?_take_of_lt hlt,List.getElem?_drop] at hu
  exact hu

theorem qaz {x:Int} (h:IntKind.i64.wrap x=x):I64 x:=by
 rw [IntKind.wrap_i64] at h
 unfold I64
 omega
