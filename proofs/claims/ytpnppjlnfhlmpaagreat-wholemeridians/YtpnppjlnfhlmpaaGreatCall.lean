import Derived.Test.YtpnppjlnfhlmpaaGreatRun
import Derived.Lib.SliceRun
import Derived.Lib.AppendZeros
import Derived.Laws.IdiomCopy
set_option linter.all false
namespace Go.Proofs.YtpnppjlnfhlmpaaGreat
namespace Ev
section
variable {I : Nat → Prop} {O0 : List Nat} {w0 w w' : World} {L L1 L2 L' : List Fact}

theorem Cx.back (h:Cx I O0 w0 w (L1++L2)) (k:Cx (fun b=>b∈blocks L1) (O0++blocks (L1++L2)) w w' L'):Cx I O0 w0 w' (L'++L2):=by
 have hlt:=h.lt
 have hnd:=h.nd
 rw [qbu] at hnd
 have hnd':=List.nodup_append.1 hnd
 have h1: ∀b∈blocks L1,b∈blocks (L1++L2):=fun b hb=>by rw [qbu]; exact List.mem_append_left _ hb
 have h2: ∀b∈blocks L2,b∈blocks (L1++L2):=fun b hb=>by rw [qbu]; exact List.mem_append_right _ hb
 have hsub: ∀b∈O0++blocks (L'++L2),b∈O0++blocks (L1++L2)++blocks L':=fun b hb=>by
  rw [qbu] at hb
  rcases List.mem_append.1 hb with h | h
  · exact List.mem_append_left _ (List.mem_append_left _ h)
  ·
   rcases List.mem_append.1 h with h | h
   · exact List.mem_append_right _ h
   · exact List.mem_append_left _ (List.mem_append_right _ (h2 b h))
 refine ⟨h.fr.trans' k.fr fun b hb1 hb2=>?_,h.lt0,?_,fun b hb=>?_,fun f hf=>?_⟩
 ·
  rcases h.fresh b (h1 b hb2) with h3 | h3
  · omega
  · exact h3
 ·
  rw [qbu]
  refine List.nodup_append.2 ⟨k.nd,hnd'.2.1,fun a ha b hb e=>?_⟩
  subst e
  rcases k.fresh a ha with h3 | h3
  · have:=hlt a (List.mem_append_right _ (h2 a hb)); omega
  · exact hnd'.2.2 a h3 a hb rfl
 ·
  rw [qbu] at hb
  rcases List.mem_append.1 hb with h3 | h3
  ·
   rcases k.fresh b h3 with h4 | h4
   · exact .inl (Nat.le_trans h.fr.size h4)
   · exact h.fresh b (h1 b h4)
  · exact h.fresh b (h2 b h3)
 ·
  rcases List.mem_append.1 hf with h3 | h3
  · exact Fact.step (Fr.refl (fun _=>False) w') (fun _ h=>h.elim) (fun b hb=>.inl (hsub b hb)) (k.all f h3) (fun _ _ h=>h)
  ·
   refine Fact.step k.fr (fun b hb=>List.mem_append_right _ (h1 b hb)) (fun b hb=>?_) (h.all f (List.mem_append_right _ h3)) fun b hb hb2=>?_
   ·
    have h4:=hsub b hb
    rcases List.mem_append.1 h4 with h4 | h4
    · exact .inl h4
    ·
     rcases k.fresh b h4 with h5 | h5
     · exact .inr h5
     · exact .inl (List.mem_append_right _ (h1 b h5))
   · exact hnd'.2.2 b hb2 b (List.mem_filterMap.2 ⟨f,h3,hb⟩) rfl

theorem Cx.give (h:Cx I O0 w0 w (L1++L2)):Tk (O0++blocks (L1++L2)) w L1:=by
 have hnd:=h.nd
 rw [qbu] at hnd
 refine ⟨fun f hf=>h.all f (List.mem_append_left _ hf),(List.nodup_append.1 hnd).1,fun k hk=>List.mem_append_right _ ?_⟩
 rw [qbu]
 exact List.mem_append_left _ hk

/-! Lent rows:the call reads them,and holds nothing of them behind. -/
def lent (O:List Nat) (vs:List Value):List Nat:=O.filter fun k=>!(vs.any fun v=>blkOf v == some k)
theorem lent_sub {O:List Nat} {vs:List Value}: ∀k∈lent O vs,k∈O:=fun _ h=>(List.mem_filter.1 h).1
theorem Cx.lentLt (h:Cx I O0 w0 w L) (vs:List Value): ∀k∈lent (O0++blocks L) vs,k<w.heap.size:=fun k hk=>h.lt k (lent_sub k hk)
theorem Rep.lent {O:List Nat} {s:Sh} {cs:List Value} {x:s.T} (h:Rep O w s cs x) (vs:List Value):Rep (lent O vs) w s cs x:=Rep.sub (fun k hk=>.inl (lent_sub k hk)) h
theorem Own.lend {O:List Nat} {e:TypeId} {s:Sh} {v:Value} {xs:List s.T} (h:Own O w e s v xs (blkOf v)) {vs:List Value} (hv:v∈vs):Rep (Ev.lent O vs) w (.sl s) [v] xs:=
 Own.freeze h (fun k hk=>.inl (lent_sub k hk)) fun g hg hin=>by
  have:=(List.mem_filter.1 hin).2
  simp only [Bool.not_eq_true',List.any_eq_false] at this
  exact this v hv (by simp [hg])
theorem Cx.mergeF (h:Cx I O0 w0 w L) {O1:List Nat} (k:Cx (fun _=>False) O1 w w' L') (hf:L'.all Fact.flat=true):Cx I O0 w0 w' (L'++L):=h.merge (k.flat hf h.lt)

theorem Cx.flatTk {J:Nat→Prop} {O1 O2:List Nat} (k:Cx J O1 w w' L) (hf:L.all Fact.flat=true) (hlt: ∀b∈O2,b<w.heap.size):Cx J O2 w w' L:=
 ⟨k.fr,hlt,k.nd,k.fresh,fun f hm=>Fact.flat_any (List.all_eq_true.1 hf f hm) (k.all f hm)⟩
theorem Tk.lent {O:List Nat} {w:World} {L1:List Fact} (h:Tk O w L1) (vs:List Value) (hv: ∀v∈vs,∀g,blkOf v=some g→g∉blocks L1):Tk (Ev.lent O vs) w L1:=
 ⟨fun f hf=>Fact.step (Fr.refl (fun _=>False) w) (fun _ h=>h.elim) (fun k hk=>.inl (lent_sub k hk)) (h.1 f hf) (fun _ _ h=>h),h.2.1,fun k hk=>List.mem_filter.2 ⟨h.2.2 k hk,by
  simp only [Bool.not_eq_true',List.any_eq_false]
  intro v hm hb
  exact hv v hm k (by simpa using hb) hk⟩⟩
theorem Cx.apart (h:Cx I O0 w0 w (L1++L2)) {vs:List Value} (hv: ∀v∈vs,∀g,blkOf v=some g→g∈blocks L2): ∀v∈vs,∀g,blkOf v=some g→g∉blocks L1:=fun v hm g hg hin=>by
 have hnd:=h.nd
 rw [qbu] at hnd
 exact (List.nodup_append.1 hnd).2.2 g hin g (hv v hm g hg) rfl
theorem blk_in {i:Nat} {e:TypeId} {s:Sh} {v:Value} {xs:List s.T} (hi:L[i]? =some (.own e s v xs)): ∀g,blkOf v=some g→g∈blocks L:=fun g hg=>List.mem_filterMap.2 ⟨_,List.mem_of_getElem? hi,hg⟩

/-! nil:compared,measured,cut,grown. -/
variable {P : Program} {ρ : Operand → Value} {d : Option Tmp} {ty : TypeId} {pos : String} {af : Array Edge} {gd : Option (Nat × Bool)} {x y : Operand}
theorem pu_eqlnil {t1 t2 e:TypeId} {A:Option Addr} {n c:Nat} (ht:P.underlying t1=some (.slice e)) (hx:ρ x=.slice A n c) (hy:ρ y=.slice none 0 0):Pu P ρ ⟨d,.binOp .eql t1 x y t2,ty,pos,af,gd⟩ (.bool A.isNone):=fun w=>by
 unfold Yv
 have:=Lib.run_eql_slice_nil (P:=P) w t1 e A n c 0 0 ht
 simp [execOp,hx,hy,this,eqGuard]
theorem copy_run {O:List Nat} {t1 t2 e te:TypeId} {s:Sh} {A:Option Addr} {m c:Nat} {v:Value} {xs ys:List s.T} (hn:s.n=1) (ht:P.underlying t1=some (.slice e)) (hsz:(P.info? e).map (·.size)=some 1)
  (hown:Own O w te s v xs (blkOf v)) (hO: ∀g,blkOf v=some g→g∈O) (hs: ∃news,Src w s.n A m news∧ys.length=m∧Elems O w s news ys):
  ∃w',(Builtin.copy_ #[t1,t2] ty #[v,.slice A m c]).run P w=.ok (.int .i64 ((min m xs.length:Nat):Int)) w'∧w'.heap.size=w.heap.size∧Own O w' te s v (ys.take (min m xs.length)++xs.drop (min m xs.length)) (blkOf v)∧Fr (fun k=>blkOf v=some k) w w':=by
 obtain ⟨news,⟨hs1,hs1'⟩,hs2,hs3⟩:=hs
 obtain ⟨A0,c0,hv,hl0,hc0⟩:=hown.form
 have hmin:min m xs.length=Nat.min m xs.length:=rfl
 rcases Nat.eq_zero_or_pos (min m xs.length) with h0 | h0
 ·
  refine ⟨w,?_,rfl,by rw [h0]; simpa using hown,Fr.refl _ w⟩
  rw [hv,run_copy_none (P:=P) w t1 t2 ty e A0 A xs.length c0 m c ht hsz (by rw [←hmin]; exact h0),h0]
  rfl
 ·
  obtain ⟨cs,h1,h2⟩:=hown
  rcases h1.2 with ⟨_,h00,_⟩ | ⟨g,o,cap,cur,hv',hG,hb,hn1,hc1,hsz1,ht1⟩
  · rw [h00] at h0; simp at h0
  obtain ⟨ad,hA,hcell⟩:=hs1' (by omega)
  subst hA
  rw [hn,Nat.mul_one] at hs1 hsz1 ht1
  have hlen:(news.take (min m xs.length)).length=min m xs.length:=by rw [List.length_take]; omega
  have h1c: ∀u∈news,u.oneCell'=true:=fun u hu=>by
   obtain ⟨j,hj⟩:=List.mem_iff_getElem?.1 hu
   have hjl:=(List.getElem?_eq_some_iff.1 hj).1
   obtain ⟨y,hy⟩: ∃y,ys[j]? =some y:=⟨_,List.getElem?_eq_getElem (by omega)⟩
   refine (hs3.2 j y hy).one u ?_
   rw [hn,Nat.mul_one]
   exact List.mem_of_getElem? (i:=0) (by rw [List.getElem?_take_of_lt (by omega),List.getElem?_drop]; simpa using hj)
  have hr:=run_copy_row (P:=P) (ty:=ty) w t1 t2 e g o xs.length cap ad m c cur te (news.take (min m xs.length)) ht hsz hb (by rw [hlen]) (fun j u hu=>hcell j u (by
   rw [List.getElem?_take] at hu
   split at hu
   · exact hu
   · cases hu)) (by rw [hlen]; omega) (fun u hu=>h1c u (List.mem_of_mem_take hu))
  rw [hlen] at hr
  have hfr:Fr (fun k=>blkOf v=some k) w (w.setRow g (cur.toList.take o++news.take (min m xs.length)++cur.toList.drop (o+min m xs.length)).toArray):=Fr.setRow (S:=fun k=>blkOf v=some k) w (.inl (by rw [hG])) _
  have hOS: ∀k,blkOf v=some k→k∈O:=fun k hk=>hO k hk
  have hol:o≤cur.toList.length:=by simp; omega
  have hdl:(ys.take (min m xs.length)++xs.drop (min m xs.length)).length=xs.length:=by simp only [List.length_append,List.length_take,List.length_drop]; omega
  have hxl:cs.length=xs.length:=by rw [h1.1,hn,Nat.mul_one]
  refine ⟨_,by rw [hv']; exact hr,by simp,⟨news.take (min m xs.length)++cs.drop (min m xs.length),⟨?_,.inr ⟨g,o,cap,_,by rw [hdl]; exact hv',hG,setRow_heap w g cur _ te _ hb,by rw [hdl]; exact hn1,hc1,?_,?_⟩⟩,?_⟩,hfr⟩
  · rw [List.length_append,hlen,List.length_drop,hdl,hxl,hn]; omega
  · rw [hn,Nat.mul_one]; simp only [List.size_toArray,List.length_append,hlen,List.length_take,List.length_drop,Array.length_toList]; omega
  ·
   rw [hdl,hn,Nat.mul_one]
   simp only [List.append_assoc]
   have hto:(cur.toList.take o).length=o:=by rw [List.length_take]; omega
   rw [show∀l:List Value,((cur.toList.take o++l).drop o)=l from fun l=>List.drop_left' hto]
   rw [List.take_append,List.take_of_length_le (by rw [hlen]; omega),hlen]
   congr 1
   rw [←ht1,List.drop_take,List.drop_drop,Nat.add_comm]
  ·
   refine ⟨by rw [hdl,List.length_append,hlen,List.length_drop,hxl,hn]; omega,fun i x hx=>Rep.fr hfr hOS ?_⟩
   rw [hn,Nat.mul_one]
   rcases Nat.lt_or_ge i (min m xs.length) with hi | hi
   ·
    rw [List.getElem?_append_left (by rw [List.length_take]; omega),List.getElem?_take_of_lt hi] at hx
    have:=hs3.2 i x hx
    rw [hn,Nat.mul_one] at this
    rw [List.drop_append_of_le_length (by omega),List.take_append_of_le_length (by rw [List.length_drop]; omega),List.drop_take,List.take_take,show min 1 (min m xs.length-i)=1 by omega]
    exact this
   ·
    rw [List.getElem?_append_right (by rw [List.length_take]; omega),List.length_take,show min (min m xs.length) ys.length=min m xs.length by omega,List.getElem?_drop] at hx
    have:=h2.2 _ x hx
    rw [hn,Nat.mul_one] at this
    rw [List.drop_append,List.drop_eq_nil_of_le (by omega),List.nil_append,hlen,List.drop_drop]
    exact this
theorem Cx.copy (h:Cx I O0 w0 w L) {i:Nat} {t1 t2 e te:TypeId} {s:Sh} {A:Option Addr} {m c:Nat} {v:Value} {xs ys:List s.T} (hi:L[i]? =some (.own te s v xs)) (hn:s.n=1) (ht:P.underlying t1=some (.slice e)) (hsz:(P.info? e).map (·.size)=some 1)
  (hs: ∃news,Src w s.n A m news∧ys.length=m∧Elems (O0++blocks L) w s news ys) (hx:ρ x=v) (hy:ρ y=.slice A m c):
  Op P ρ ⟨d,.call { callee:=.builtin .copy,args:=#[x,y],argTypes:=#[t1,t2] },ty,pos,af,gd⟩ w fun v' w'=>v'=.int .i64 ((min m xs.length:Nat):Int)∧Cx I O0 w0 w' (L.set i (.own te s v (ys.take (min m xs.length)++xs.drop (min m xs.length))))∧Fr (fun k=>blkOf v=some k) w w':=by
 have hown:Own (O0++blocks L) w te s v xs (blkOf v):=h.at_ hi
 have hmem: ∀g,blkOf v=some g→g∈O0++blocks L:=fun g hg=>List.mem_append_right _ (List.mem_filterMap.2 ⟨_,List.mem_of_getElem? hi,hg⟩)
 obtain ⟨w',hr,hsize,ho,hf⟩:=copy_run (ty:=ty) (t2:=t2) (c:=c) hn ht hsz hown hmem hs
 refine ⟨_,w',?_,rfl,h.turn hi hf (.inl rfl) fun O hO=>?_,hf⟩
 · simp [execOp,resolve,invoke,builtin,hx,hy,hr]
 · exact Own.sub ho fun k hk=>by rw [hsize]; exact hO k hk

theorem Rep.none_nil' {O:List Nat} {s:Sh} {A:Option Addr} {m c:Nat} {xs:List s.T} (h:Rep O w (.sl s) [.slice A m c] xs) (hz:A=none):xs=[]:=by subst hz; exact h.none_nil
theorem Own.none_nil' {O:List Nat} {e:TypeId} {s:Sh} {A:Option Addr} {m c:Nat} {xs:List s.T} {G:Option Nat} (h:Own O w e s (.slice A m c) xs G) (hz:A=none):xs=[]:=by
 subst hz
 obtain ⟨cs,h1,_⟩:=h
 rcases h1.2 with ⟨_,h0,_⟩ | ⟨g,o,cap,cur,hv,_⟩
 · exact List.eq_nil_of_length_eq_zero h0
 · cases hv
def posz (n:Int):Option Unit:=if 0<n∧n≤1099511627776 then some () else none
theorem posz_some {n:Int} {u:Unit} (h:posz n=some u):0<n∧n≤1099511627776:=by
 unfold posz at h
 split at h
 · assumption
 · cases h
theorem blk_sl {A:Option Addr} {m c m' c':Nat}:blkOf (.slice A m c)=blkOf (.slice A m' c'):=by cases A<;>rfl
theorem Cx.own_newI {B:List Fact} (hI:I=fun k=>k∈blocks B) (h:Cx I O0 w0 w L) {i:Nat} {e:TypeId} {s:Sh} {v:Value} {xs:List s.T} (hi:L[i]? =some (.own e s v xs))
  (hB: ∀f∈B,∀g,f.blk=some g→∃(j:Nat) (f':Fact),L[j]? =some f'∧j≠i∧f'.blk=some g): ∀g,blkOf v=some g→w0.heap.size≤g:=fun g hg=>by
 rcases h.fresh g (blk_in hi g hg) with h1 | h1
 · exact h1
 ·
  subst hI
  obtain ⟨f,hf,hb⟩:=List.mem_filterMap.1 h1
  obtain ⟨j,f',hj,hne,hb'⟩:=hB f hf g hb
  exact absurd hb' (nd_other h.nd hi hj (Ne.symm hne) hg)
/-! Structs. -/
theorem qds {P:Program} {ρ:Operand→Value} {d:Option Tmp} {t t1:TypeId} {pos:String} {af:Array Edge} {g:Option (Nat×Bool)} {ps:Array (Nat×Operand)} {pv:List (Nat×Value)} {cs:Array Value} {it:TypeInfo} {fs:Array Field} {z:Value} {places:List (Nat×Nat)}
 (hi:P.info? t1=some it) (hu:P.underlying t1=some (.struct fs)) (hz:it.zero=some z) (hp:fs.toList.mapM (fun f=>(P.info? f.type).map fun i=>(f.offset,i.size))=some places)
 (hv:ps.toList.map (fun p=>(p.1,ρ p.2))=pv) (h:Instr.fill (places.toArray[·]?) z.cells pv=some cs):Pu P ρ ⟨d,.build t1 ps,t,pos,af,g⟩ (.agg cs):=pu_build (by
 simp only [Program.built,hi,hu,hz]
 rw [hp]
 subst hv
 simpa using h)
theorem mp_nil {P:Program}:([]:List Field).mapM (fun f=>(P.info? f.type).map fun i=>(f.offset,i.size))=some []:=rfl
theorem qbn {P:Program} {f:Field} {fs:List Field} {i:TypeInfo} {pl:List (Nat×Nat)} {n sz:Nat} (h:P.info? f.type=some i) (h2:fs.mapM (fun f=>(P.info? f.type).map fun i=>(f.offset,i.size))=some pl) (hn:f.offset=n) (hs:i.size=sz):
 (f::fs).mapM (fun f=>(P.info? f.type).map fun i=>(f.offset,i.size))=some ((n,sz)::pl):=by
 subst hn hs
 simp [List.mapM_cons,h,h2]
/-! Readings beside a row that turns. -/
theorem Cx.elr2 (h:Cx I O0 w0 w L) {i:Nat} {s:Sh} {A:Option Addr} {m c:Nat} {xs:List s.T} (hi:L[i]? =some (.ro (.sl s) [.slice A m c] xs)) {j:Nat} {x:s.T} (hx:xs[j]? =some x) (is:List Nat):
  ∃ad cs,A=some ad∧ad.block∉blocks (is.filterMap (L[·]?))∧(∀j' u,cs[j']? =some u→w.cell? ((ad.add (j*s.n)).add j')=some u)∧Rep (O0++blocks L) w s cs x:=by
 have hr:Rep (O0++blocks L) w (.sl s) [.slice A m c] xs:=h.at_ hi
 obtain ⟨A',c',h1,h2,h3,h4⟩:=hr
 injection h1 with h1
 injection h1 with hA _ _
 subst hA
 obtain ⟨ad,hA,hO,hi'⟩:=h4 (by have:=(List.getElem?_eq_some_iff.1 hx).1; omega)
 obtain ⟨cs,hc,hr⟩:=hi' j x hx
 refine ⟨ad,cs,hA,fun hin=>hO (List.mem_append_right _ ?_),fun j' u hu=>by rw [add_add]; exact hc j' u hu,hr⟩
 obtain ⟨f,hf,hb⟩:=List.mem_filterMap.1 hin
 obtain ⟨q,_,hq⟩:=List.mem_filterMap.1 hf
 exact List.mem_filterMap.2 ⟨f,List.mem_of_getElem? hq,hb⟩
theorem off_own (h:Cx I O0 w0 w L) {i:Nat} {f:Fact} {g:Nat} (hi:L[i]? =some f) (hg:f.blk=some g) (is:List Nat) (hn:i∉is):g∉blocks (is.filterMap (L[·]?)):=fun hin=>by
 obtain ⟨f',hf,hb⟩:=List.mem_filterMap.1 hin
 obtain ⟨q,hq,hq'⟩:=List.mem_filterMap.1 hf
 exact nd_other h.nd hi hq' (fun e=>hn (e▸hq)) hg hb
theorem Cx.elo2 (h:Cx I O0 w0 w L) {i:Nat} {e:TypeId} {s:Sh} {A:Option Addr} {m c:Nat} {xs:List s.T} (hi:L[i]? =some (.own e s (.slice A m c) xs)) {j:Nat} {x:s.T} (hx:xs[j]? =some x) (is:List Nat) (hn:i∉is):
  ∃ad cs,A=some ad∧ad.block∉blocks (is.filterMap (L[·]?))∧(∀j' u,cs[j']? =some u→w.cell? ((ad.add (j*s.n)).add j')=some u)∧Rep (O0++blocks L) w s cs x:=by
 obtain ⟨ad,cs,hA,hc,hr⟩:=h.elo hi hx
 exact ⟨ad,cs,hA,off_own h hi (by subst hA; rfl) is hn,hc,hr⟩
theorem Cx.bx2 (h:Cx I O0 w0 w L) {i:Nat} {g:Nat} {t:TypeId} {cs:List Value} (hi:L[i]? =some (.box g t cs)) (is:List Nat) (hn:i∉is) (hf:Fr (fun k=>k∈blocks (is.filterMap (L[·]?))) w w'):Blk w' g t cs:=
 (h.bx hi).fr hf (off_own h hi rfl is hn)
theorem off2 {ad:Addr} {i j:Nat} {B:List Nat} (h:ad.block∉B):((ad.add i).add j).block∉B:=by rw [add_block,add_block]; exact h
theorem off1 {ad:Addr} {i:Nat} {B:List Nat} (h:ad.block∉B):(ad.add i).block∉B:=by rw [add_block]; exact h
def Beside (T:List Fact) (wS:World) (v:Value):Prop:= ∀g,g<wS.heap.size→blkOf v=some g→g∈blocks T
theorem Beside.new {T:List Fact} {wS w:World} {v:Value} (hM:Fr (fun k=>k∈blocks T) wS w) (hN: ∀g,blkOf v=some g→w.heap.size≤g):Beside T wS v:=fun g hlt hg=>absurd (Nat.lt_of_lt_of_le hlt hM.size) (Nat.not_lt.2 (hN g hg))
theorem Beside.of {T:List Fact} {wS:World} {i:Nat} {e:TypeId} {s:Sh} {v:Value} {xs:List s.T} (hi:T[i]? =some (.own e s v xs)):Beside T wS v:=fun g _ hg=>blk_in hi g hg
theorem Beside.app {T:List Fact} {wS w:World} {v v':Value} (hM:Fr (fun k=>k∈blocks T) wS w) (h:Beside T wS v) (hb:blkOf v'=blkOf v∨blkOf v'=some w.heap.size):Beside T wS v':=fun g hlt hg=>by
 rcases hb with hb | hb
 · exact h g hlt (hb▸hg)
 ·
  rw [hb] at hg; injection hg with hg
  have:=hM.size; omega
@[reducible] def frm (S:List Nat) (T H:List Fact) (wS:World):Frm:=⟨S,Fr (fun k=>k∈blocks T) wS,Fr (fun k=>k∈blocks (T++H)) wS,fun _ h=>h.mono fun k _ hk=>by rw [qbu]; exact List.mem_append_left _ hk⟩
theorem Fr.wide {T H:List Fact} {wS w:World} (h:Fr (fun k=>k∈blocks T) wS w):Fr (fun k=>k∈blocks (T++H)) wS w:=h.mono fun k _ hk=>by rw [qbu]; exact List.mem_append_left _ hk
theorem Fr.besideG {T:List Fact} {wS w w':World} {g:Nat} (hM:Fr (fun k=>k∈blocks T) wS w) (h:g<wS.heap.size→g∈blocks T) (hF:Fr (fun k=>some g=some k) w w'):Fr (fun k=>k∈blocks T) wS w':=hM.trans' hF fun i hi hs=>by
 injection hs with hs; subst hs; exact h hi
theorem box_in {T:List Fact} {i:Nat} {g:Nat} {t:TypeId} {cs:List Value} (hi:T[i]? =some (.box g t cs)):g∈blocks T:=List.mem_filterMap.2 ⟨_,List.mem_of_getElem? hi,rfl⟩
theorem Fr.beside {T:List Fact} {wS w w':World} {v:Value} (hM:Fr (fun k=>k∈blocks T) wS w) (h:Beside T wS v) (hF:Fr (fun k=>blkOf v=some k) w w'):Fr (fun k=>k∈blocks T) wS w':=hM.trans' hF fun i hi hs=>h i hi hs
theorem Fr.besideL {T L1:List Fact} {wS w w':World} (hM:Fr (fun k=>k∈blocks T) wS w) (h: ∀f∈L1,∀g,g<wS.heap.size→f.blk=some g→g∈blocks T) (hF:Fr (fun k=>k∈blocks L1) w w'):Fr (fun k=>k∈blocks T) wS w':=hM.trans' hF fun i hi hs=>by
 obtain ⟨f,hf,hb⟩:=List.mem_filterMap.1 hs
 exact h f hf i hi hb
theorem Beside.wide {T H:List Fact} {wS:World} {v:Value} (h:Beside T wS v):Beside (T++H) wS v:=fun g hlt hg=>by rw [qbu]; exact List.mem_append_left _ (h g hlt hg)
theorem Beside.cl {T L':List Fact} {wS w w':World} {O:List Nat} {v:Value} (hM:Fr (fun k=>k∈blocks T) wS w) (k:Cx (fun _=>False) O w w' L') {i:Nat} {e:TypeId} {s:Sh} {xs:List s.T} (hi:L'[i]? =some (.own e s v xs)):Beside T wS v:=fun g hlt hg=>by
 rcases k.fresh g (blk_in hi g hg) with h1 | h1
 · have:=hM.size; omega
 · exact h1.elim
theorem Fr.none {T:List Fact} {wS w w':World} (hM:Fr (fun k=>k∈blocks T) wS w) (hF:Fr (fun _=>False) w w'):Fr (fun k=>k∈blocks T) wS w':=hM.trans' hF fun _ _ h=>h.elim
