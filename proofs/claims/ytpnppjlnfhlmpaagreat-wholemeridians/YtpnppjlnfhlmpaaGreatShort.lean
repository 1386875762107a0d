import Derived.Test.YtpnppjlnfhlmpaaGreatMore
set_option linter.all false
namespace Go.Proofs.YtpnppjlnfhlmpaaGreat
namespace Ev
section
variable {P : Program} {ops : Array Oper} {K : Env → World → Prop} {o : Oper} {rest : List Oper} {E : Env} {w w' : World}
theorem rg {r:Option Nat} {m:Bool} {N:Nat} {nrm rt:Asn} {ex:List (Nat×Asn)} {id:Nat} (h:lex P ops nrm ops.toList E w) (hd:ops.all (dstOk N)=true:=by decide+kernel):WcM r m P N (.region id ops false) nrm rt ex E w:=Wc.region hd h
theorem lp (v:Value) (h:Pu P E.ev o v) (hk:lex P ops K rest (E.put o.dst v) w) (hg:o.guard=none:=by rfl):lex P ops K (o::rest) E w:=lex.pure h hk hg
theorem gp {j:Nat} {q:Bool} {t:Tmp} (hg:o.guard=some (j,q)) (hd:(ops[j]?).bind (·.dst)=some t) (b:Bool) (hv:E.f t=.bool b) (hb:b=q) (v:Value) (h:Pu P E.ev o v) (hk:lex P ops K rest (E.put o.dst v) w):lex P ops K (o::rest) E w:=lex.gpure (qei hg hd hv hb) h hk
theorem gv {j:Nat} {q:Bool} {t:Tmp} (hg:o.guard=some (j,q)) (hd:(ops[j]?).bind (·.dst)=some t) (b:Bool) (hv:E.f t=.bool b) (hb:b=q) (v:Value) (h:(execOp E.ev o).run P w=.ok (.value v) w') (hk:lex P ops K rest (E.put o.dst v) w'):lex P ops K (o::rest) E w:=lex.gval (qei hg hd hv hb) h hk
theorem gs {j:Nat} {q:Bool} {t:Tmp} (hg:o.guard=some (j,q)) (hd:(ops[j]?).bind (·.dst)=some t) (b:Bool) (hv:E.f t=.bool b) (hb:b=!q) (hk:lex P ops K rest (E.put o.dst undef) w):lex P ops K (o::rest) E w:=lex.gskip (want_f hg hd hv hb) hk
theorem lv (v:Value) (h:(execOp E.ev o).run P w=.ok (.value v) w') (hk:lex P ops K rest (E.put o.dst v) w') (hg:o.guard=none:=by rfl):lex P ops K (o::rest) E w:=lex.val h hk hg
theorem mp {C:Frm} (v:Value) (h:Pu P E.ev o v) (hk:mixE P ops C K rest (E.put o.dst v) w) (hg:o.guard=none:=by rfl) (hk0:kdS C.S o=.pure:=by rfl):mixE P ops C K (o::rest) E w:=mixE.pure h hk hg hk0
theorem ln (h:K E w):lex P ops K [] E w:=h
end
theorem os {α:Type} {a b:α} (h:some a=some b):a=b:=Option.some.inj h
theorem tt {α:Type} {b:Bool} {x y z:α} (h:b=true) (k:cond b x y=z):x=z:=(cT h).symm.trans k
theorem tf {α:Type} {b:Bool} {x y z:α} (h:b=false) (k:cond b x y=z):y=z:=(cF h).symm.trans k
theorem cg {α β:Type} {f g:α→β} {v:β} (h:f=g) (k:α) (e:g k=v):f k=v:=(congrFun h k).trans e
theorem bn {α β:Type} {x:Option α} {f:α→Option β} {r:β} (h:x.bind f=some r): ∃a,x=some a∧∃g,g=f∧g a=some r:=by
  obtain ⟨a,h1,h2⟩:=bd h
  exact ⟨a,h1,f,rfl,h2⟩
abbrev iv (z:Int):Value:=.int .i64 z
abbrev pg (g:Nat):Value:=.pointer (some ⟨g,0,none⟩)
theorem nb {a b:Nat} (h:Nat.ble a b=true):a≤b:=Nat.le_of_ble_eq_true h
abbrev si:Sh:=.int .i64
abbrev rZ (n:Int):List Int:=List.replicate n.toNat (0:Int)
theorem tV {P:Program} {E:Env} {w:World} {t:Tmp} (v:Value) (h:RV P E w (.tmp t) v):RV P E w (.tmp t) v:=h
theorem Cx.sE {I:Nat→Prop} {O0:List Nat} {w0 w:World} {L:List Fact} (h:Cx I O0 w0 w L) (is:List Nat) (hn:is.Nodup:=by decide):Cx I O0 w0 w (is.filterMap (L[·]?)):=h.sel is hn
theorem bB {α β:Type} (a:α) (f:α→Option β):(some a).bind f=f a:=rfl
theorem dT {p:Prop} [Decidable p] (h:p):decide p=true:=decide_eq_true h
theorem dF {p:Prop} [Decidable p] (h: ¬p):decide p=false:=decide_eq_false h
theorem kT {α:Type} (a b:α):cond true a b=a:=rfl
theorem kF {α:Type} (a b:α):cond false a b=b:=rfl
theorem gE {α:Type} {l:List α} {i:Nat} (h:i<l.length):l[i]? =some l[i]:=List.getElem?_eq_getElem h
end Ev
def Qa:=@Nat.lt_succ_self
def Qb:=@Int.toNat_natCast
def Qc:=@List.getD_eq_getElem?_getD
def Qe:=@List.forall_mem_cons
def Qf:=@List.mem_cons_of_mem
def Qg:=@List.mem_range
def Qh:=@List.not_mem_nil
def Qi:=@Bool.not_true
def Qj:=@List.getElem_mem
def Qk:=@List.getElem?_eq_none
def Ql:=@List.mem_cons_self
def Qm:=@List.getElem?_map
def Qn:=@List.length_range
def Qo:=@List.mem_map
def Qp:=@List.mem_cons
def Qq:=@List.mem_singleton
def Qr:=@List.length_append
def Qs:=@List.mem_append
def Qu:=@List.length_map
def Qv:=@List.length_replicate
def Qw:=@List.ext_getElem?
def Qx:=@List.mem_filter
def Qy:=@List.getElem?_range
def Qz:=@Bool.not_false
def Xa:=@List.length_singleton
def Xb:=@Nat.le_refl
def Xc:=@List.take_add_one
def Xd:=@List.map_congr_left
def Xe:=@List.length_cons
def Xf:=@Nat.lt_or_ge
def Xh:=@List.getElem?_eq_some_iff
def Xi:=@Option.getD_some
def Xj:=@List.filter_append
def Xk:=@Nat.zero_le
def Xl:=@List.take_length
def Xm:=@List.filter_cons
def Xn:=@List.map_append
def Xo:=@List.take_of_length_le
def Xp:=@List.getElem?_take_of_lt
def Xq:=@List.mem_append_right
def Xr:=@List.length_filter_le
def Xs:=@List.length_set
def Xt:=@List.range_succ
def Xu:=@List.mem_append_left
def Xv:=@List.perm_append_comm
def Xw:=@List.idxOf_lt_length_iff
def Xx:=@List.length_take
def Xy:=@Int.eq_ofNat_of_zero_le
def Xz:=@List.getElem?_replicate
def X8:=@List.nodup_append
def X9:=@Option.map_some
def Ya:=@List.findSome?_eq_none_iff
def Yb:=@List.exists_of_findSome?_eq_some
def Yc:=@List.nodup_range
def Ye:=@List.getElem?_append_left
def Yf:=@List.append_nil
def Yg:=@List.getElem?_set
def Yh:=@List.getElem?_set_self
def Yi:=@List.getElem?_append_right
def Yj:=@List.pairwise_map
def Yk:=@Nat.lt_trichotomy
def Yl:=@List.filter_congr
def Ym:=@List.getElem?_set_ne
def Yn:=@List.nodup_nil
def Yo:=@Bool.and_eq_true
def Yp:=@List.perm_iff_count
def Yq:=@Bool.or_eq_true
def Yr:=@Nat.not_lt_zero
def Ys:=@List.append_assoc
def Yt:=@List.mem_range'_1
def Yu:=@List.map_map
def Yw:=@Nat.add_zero
def Yx:=@Nat.mul_comm
def Yy:=@Classical.choose_spec
def Yz:=@List.cons_append
def Y0:=@List.all_eq_true
def Y1:=@List.nodup_cons
def Y2:=@List.foldl_cons
def Y3:=@Nat.zero_add
def Y4:=@Int.ofNat_tmod
def Y5:=@List.foldl_append
def Y6:=@Nat.lt_of_succ_lt_succ
def Y7:=@List.filter_eq_nil_iff
def Y8:=@Bool.false_or
def Y9:=@List.mem_iff_getElem
def Za:=@Bool.true_or
def Zb:=@Bool.or_true
def Zc:=@List.eq_nil_iff_forall_not_mem
def Zd:=@List.take_append_of_le_length
def Ze:=@List.mem_eraseIdx_iff_getElem
def Zf:=@List.eq_nil_of_length_eq_zero
def Zg:=@List.drop_drop
def Zh:=@Int.ofNat_tdiv
def Zi:=@List.take_zero
def Zj:=@Nat.mul_one
def Zk:=@List.getElem_idxOf
def Zl:=@List.filter_filter
def Zm:=@List.getElem?_drop
def Zn:=@List.getElem?_inj
def Zo:=@List.pairwise_iff_getElem
def Zp:=@Nat.zero_mul
def Zq:=@Nat.mul_zero
def Zr:=@List.nil_append
def Zs:=@Bool.decide_coe
def Zt:=@List.sum_append
def Zu:=@Nat.min_eq_left
def Zv:=@List.filter_nil
def Zw:=@List.drop_of_length_le
def Zx:=@List.take_take
def Zy:=@Bool.decide_or
def Zz:=@List.mem_of_getElem?
def Z0:=@Nat.add_assoc
def Z1:=@List.map_take
def Z2:=@List.filter_eq_self
def Z3:=@Nat.le_trans
