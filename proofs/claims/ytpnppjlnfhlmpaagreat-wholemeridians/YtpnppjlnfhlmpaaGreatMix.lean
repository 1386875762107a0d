import Derived.WalkKit
import Derived.Deep.Quiet
import Derived.OrdersIn
import Derived.RangeFuncIn
namespace Go.Proofs.YtpnppjlnfhlmpaaGreat
namespace Ev

inductive Kd where
 | pure | load | soft | hard | steady
 deriving DecidableEq

def kd (o:Oper):Kd:=
 match o.op with
 | .load .. =>.load
 | .store .. =>.hard
 | .move _ | .assign _ | .pick .. | .binOp .. | .unOp .. | .convert .. | .fieldAddr .. | .field .. | .indexAddr .. | .index .. | .extract .. | .build .. | .nilCheck .. | .slice .. | .makeFunc .. | .makeInterface .. =>.pure
 | .call { callee:=.builtin .len,.. } | .call { callee:=.builtin .max,.. } | .call { callee:=.builtin .min,.. }=>.pure
 | _=>.soft

def isEff (k:Kd):Bool:=match k with | .soft | .hard=>true | _=>false
def kdS (S:List Nat) (o:Oper):Kd:=
 match kd o with
 | .load=>match o.dst with | some t=>bif S.contains t then .steady else bif S.contains (t+1048576) then .soft else .load | none=>.load
 | k=>k

structure Frm where
 S:List Nat
 c:World→Prop
 d:World→Prop
 h: ∀w,c w→d w

def okPair (x y:Kd):Bool:=
 !(isEff x&&isEff y)&&!(x == .load&&y == .hard)&&!(x == .hard&&y == .load)

def wF (r:Option Nat):Fence:={ fn:=fun _=>True,depth:=none,alive:=false,round:=r }
theorem callsIn_wF {r:Option Nat} {n:Nat} {P:Program} {f:FuncId} {args:Array Value} {w:World} {R:Ending→World→Prop}:CallsIn (wF r) n P f args w R↔Calls P f args w R:=
 (callsIn_wide (n:=n):CallsIn Fence.wide n P f args w R↔Calls P f args w R)
theorem roundIn_wF {r r':Option Nat} {n n':Nat} {P:Program} {l:Nat} {f:FuncId} {tmps:Array Value} {assign body:Code} {w:World} {R:Ending→World→Prop} (h:RoundIn (wF r) n P l f tmps assign body w R):RoundIn (wF r') n' P l f tmps assign body w R:=
 ⟨trivial,fun c cs _=>h.2 c cs (fun _ hd=>by cases hd)⟩

def wpV (P:Program) (ρ:Operand→Value) (w:World) (o:Oper) (K:Value→World→Prop):Prop:=
 match (execOp ρ o).run P w with
 | .ok (.value v) w'=>K v w'
 | .ok .skip w'=>K undef w'
 | .ok (.enter f args) w'=>Calls P f args w' fun e w''=>match e with | .returned v=>K v w'' | _=>False
 | .ok (.round l f tmps assign body) w'=>RoundIn (wF none) 0 P l f tmps assign body w' fun e w''=>match e with | .returned v=>K v w'' | _=>False
 | _=>False

theorem qbk {P:Program} {ρ:Operand→Value} {w:World} {o:Oper} {K K':Value→World→Prop} (h: ∀v w',K v w'→K' v w') (hh:wpV P ρ w o K):wpV P ρ w o K':=by
 unfold wpV at*
 split at hh
 · exact h _ _ hh
 · exact h _ _ hh
 · exact hh.mono fun e w'' he=>by cases e<;>first | exact h _ _ he | exact he
 · exact RoundIn.mono hh fun e w'' he=>by cases e<;>first | exact h _ _ he | exact he
 · exact hh.elim

theorem wpV_const {P:Program} {ρ:Operand→Value} {w:World} {o:Oper} {φ:Prop} (hh:wpV P ρ w o fun _ _=>φ):φ:=by
 unfold wpV at hh
 split at hh
 · exact hh
 · exact hh
 ·
  obtain ⟨e,w',fr,hr,_⟩:=hh []
  cases e<;>first | exact hr | exact hr.elim
 ·
  obtain ⟨e,w',hr,_⟩:=hh.2 (default:Frame) [] (fun _ hd=>by cases hd)
  cases e<;>first | exact hr | exact hr.elim
 · exact hh.elim

theorem wp_of_wpV {r:Option Nat} {n:Nat} {P:Program} {a:Act} {w:World} {o:Oper} {K:Act→World→Prop} {Q:Exit→Act→World→Prop} (hd: ∀c,o.op≠.defer c) (h:wpV P a.eval w o fun v w'=>K (a.put o.dst v) w'):o.wpIn (wF r) n P a w K Q:=by
 refine ⟨fun _ _=>trivial,?_⟩
 rw [Oper.semAt_eq _ _ _ hd]
 unfold wpV at h
 generalize (execOp a.eval o).run P w=q at*
 cases q with
 | ok n w'=>
  cases n<;>simp only [Oper.uponIn] at h⊢ <;>first | exact h | exact h.elim | skip
  · exact ⟨fun hx=>(by cases hx),callsIn_wF.2 (h.mono fun e w'' he=>by cases e<;>first | exact he | exact he.elim)⟩
  · exact ⟨fun hx=>(by cases hx),roundIn_wF (RoundIn.mono h fun e w'' he=>by cases e<;>first | exact he | exact he.elim)⟩
 | halt x w'=>exact h.elim

def Yd (P:Program) (o:Oper) (a:Act) (w:World) (v:Value):Prop:=(execOp a.eval o).run P w=.ok (.value v) w

theorem Yd.wpV {P:Program} {o:Oper} {a:Act} {w:World} {v:Value} {K:Value→World→Prop} (h:Yd P o a w v) (hk:K v w):wpV P a.eval w o K:=by
 unfold Ev.wpV; rw [h]; exact hk

section
variable {P : Program} {ops : Array Oper} {C : Frm} {K : Act → World → Prop}

def one (P:Program) (ops:Array Oper) (C:Frm) (o:Oper) (N:Act→World→Prop) (a:Act) (w:World):Prop:=
 if Region.wanted o (yielded ops a.tmps)=true then
  match kdS C.S o with
  | .pure=> ∃v,(∀w',Yd P o a w' v)∧N (a.put o.dst v) w
  | .steady=>C.d w∧∃v,(∀w',C.d w'→Yd P o a w' v)∧N (a.put o.dst v) w
  | .load=>C.c w∧∃v,(∀w',C.c w'→Yd P o a w' v)∧N (a.put o.dst v) w
  | .soft=>C.c w∧wpV P a.eval w o fun v w'=>C.c w'∧N (a.put o.dst v) w'
  | .hard=>C.d w∧wpV P a.eval w o fun v w'=>C.d w'∧N (a.put o.dst v) w'
 else N (a.put o.dst undef) w

def mix (P:Program) (ops:Array Oper) (C:Frm) (K:Act→World→Prop):List Oper→Act→World→Prop
 | [],a,w=>K a w
 | o::rest,a,w=>one P ops C o (mix P ops C K rest) a w

theorem one_mono {o:Oper} {N N':Act→World→Prop} {a:Act} {w:World} (h: ∀a w,N a w→N' a w) (hh:one P ops C o N a w):one P ops C o N' a w:=by
 unfold one at*
 split
 ·
  rename_i hw
  simp only [hw,if_true] at hh
  split
  · rename_i hk; simp only [hk] at hh; obtain ⟨v,h1,h2⟩:=hh; exact ⟨v,h1,h _ _ h2⟩
  · rename_i hk; simp only [hk] at hh; obtain ⟨hc,v,h1,h2⟩:=hh; exact ⟨hc,v,h1,h _ _ h2⟩
  · rename_i hk; simp only [hk] at hh; obtain ⟨hc,v,h1,h2⟩:=hh; exact ⟨hc,v,h1,h _ _ h2⟩
  · rename_i hk; simp only [hk] at hh; exact ⟨hh.1,qbk (fun v w' ⟨hc,hn⟩=>⟨hc,h _ _ hn⟩) hh.2⟩
  · rename_i hk; simp only [hk] at hh; exact ⟨hh.1,qbk (fun v w' ⟨hc,hn⟩=>⟨hc,h _ _ hn⟩) hh.2⟩
 ·
  rename_i hw
  simp only [hw] at hh
  exact h _ _ hh

theorem Yd.put {x y:Oper} {a:Act} {u v:Value} {w:World} (hs: ∀cs b,y.op≠.select cs b) (hap: ∀d,x.dst=some d→d∉y.looksAt ops):Yd P y (a.put x.dst u) w v↔Yd P y a w v:=by
 unfold Yd; rw [execOp_put (ops:=ops) y hs a x.dst u hap]

theorem wpV_put {x y:Oper} {a:Act} {u:Value} {w:World} {N:Value→World→Prop} (hs: ∀cs b,y.op≠.select cs b) (hap: ∀d,x.dst=some d→d∉y.looksAt ops):wpV P (a.put x.dst u).eval w y N↔wpV P a.eval w y N:=by
 unfold wpV; rw [execOp_put (ops:=ops) y hs a x.dst u hap]

theorem one_swap {x y:Oper} {N:Act→World→Prop} {a:Act} {w:World} (hsx: ∀cs b,x.op≠.select cs b) (hsy: ∀cs b,y.op≠.select cs b)
  (hap:x.apart ops y=true) (hok:okPair (kdS C.S x) (kdS C.S y)=true)
  (h:one P ops C x (one P ops C y N) a w):one P ops C y (one P ops C x N) a w:=by
 obtain ⟨h1,h2,h3⟩:=Oper.apart_spec hap
 have wx: ∀(a:Act) v,Region.wanted x (yielded ops (a.put y.dst v).tmps)=Region.wanted x (yielded ops a.tmps):=fun a v=>wanted_put x a y.dst v h3
 have wy: ∀(a:Act) v,Region.wanted y (yielded ops (a.put x.dst v).tmps)=Region.wanted y (yielded ops a.tmps):=fun a v=>wanted_put y a x.dst v h1
 have pc: ∀(a:Act) u v,(a.put x.dst u).put y.dst v=(a.put y.dst v).put x.dst u:=fun a u v=>Act.put_comm a u v h2
 have yy: ∀(a:Act) u v w,Yd P y (a.put x.dst u) w v↔Yd P y a w v:=fun a u v w=>Yd.put hsy h1
 have yx: ∀(a:Act) u v w,Yd P x (a.put y.dst u) w v↔Yd P x a w v:=fun a u v w=>Yd.put hsx h3
 have vy: ∀(a:Act) u w N,wpV P (a.put x.dst u).eval w y N↔wpV P a.eval w y N:=fun a u w N=>wpV_put hsy h1
 have vx: ∀(a:Act) u w N,wpV P (a.put y.dst u).eval w x N↔wpV P a.eval w x N:=fun a u w N=>wpV_put hsx h3
 unfold one at*
 by_cases hx:Region.wanted x (yielded ops a.tmps)=true<;>by_cases hy:Region.wanted y (yielded ops a.tmps)=true<;>
  simp only [hx,hy,wx,wy,if_true,if_false,Bool.false_eq_true] at h⊢
 ·
  have uniq: ∀{w:World} {u u':Value},Yd P y a w u'→Yd P y a w u→u'=u:=fun e1 e2=>by
   unfold Yd at e1 e2; rw [e1] at e2; injection e2 with e2 _; injection e2
  cases kx:kdS C.S x<;>cases ky:kdS C.S y<;>simp only [kx,ky] at h hok⊢ <;>first | (exact absurd hok (by decide)) | skip
  -- pure first
  ·
   obtain ⟨v,hv,u,hu,hn⟩:=h
   exact ⟨u,fun w'=>(yy _ _ _ _).1 (hu w'),v,fun w'=>(yx _ _ _ _).2 (hv w'),by rw [←pc]; exact hn⟩
  ·
   obtain ⟨v,hv,hc,u,hu,hn⟩:=h
   exact ⟨hc,u,fun w' hc'=>(yy _ _ _ _).1 (hu w' hc'),v,fun w'=>(yx _ _ _ _).2 (hv w'),by rw [←pc]; exact hn⟩
  ·
   obtain ⟨v,hv,hc,hn⟩:=h
   refine ⟨hc,qbk (fun u w' ⟨hc',hn'⟩=>⟨hc',v,fun w'=>(yx _ _ _ _).2 (hv w'),by rw [←pc]; exact hn'⟩) ((vy _ _ _ _).1 hn)⟩
  ·
   obtain ⟨v,hv,hc,hn⟩:=h
   refine ⟨hc,qbk (fun u w' ⟨hc',hn'⟩=>⟨hc',v,fun w'=>(yx _ _ _ _).2 (hv w'),by rw [←pc]; exact hn'⟩) ((vy _ _ _ _).1 hn)⟩
  ·
   obtain ⟨v,hv,hc,u,hu,hn⟩:=h
   exact ⟨hc,u,fun w' hc'=>(yy _ _ _ _).1 (hu w' hc'),v,fun w'=>(yx _ _ _ _).2 (hv w'),by rw [←pc]; exact hn⟩
  -- load first
  ·
   obtain ⟨hc,v,hv,u,hu,hn⟩:=h
   exact ⟨u,fun w'=>(yy _ _ _ _).1 (hu w'),hc,v,fun w' hc'=>(yx _ _ _ _).2 (hv w' hc'),by rw [←pc]; exact hn⟩
  ·
   obtain ⟨hc,v,hv,_,u,hu,hn⟩:=h
   exact ⟨hc,u,fun w' hc'=>(yy _ _ _ _).1 (hu w' hc'),hc,v,fun w' hc'=>(yx _ _ _ _).2 (hv w' hc'),by rw [←pc]; exact hn⟩
  ·
   obtain ⟨hc,v,hv,_,hn⟩:=h
   refine ⟨hc,qbk (fun u w' ⟨hc',hn'⟩=>⟨hc',hc',v,fun w' hc''=>(yx _ _ _ _).2 (hv w' hc''),by rw [←pc]; exact hn'⟩) ((vy _ _ _ _).1 hn)⟩
  ·
   obtain ⟨hc,v,hv,hd,u,hu,hn⟩:=h
   exact ⟨hd,u,fun w' hc'=>(yy _ _ _ _).1 (hu w' hc'),hc,v,fun w' hc'=>(yx _ _ _ _).2 (hv w' hc'),by rw [←pc]; exact hn⟩
  -- soft first
  ·
   obtain ⟨hc,hn⟩:=h
   have hφ: ∃u,∀w',Yd P y a w' u:=wpV_const (qbk (fun v w' ⟨_,u,hu,_⟩=>⟨u,fun w''=>(yy _ _ _ _).1 (hu w'')⟩) hn)
   obtain ⟨u,hu⟩:=hφ
   refine ⟨u,hu,hc,(vx _ _ _ _).2 (qbk (fun v w' ⟨hc',u',hu',hn'⟩=>⟨hc',?_⟩) hn)⟩
   obtain rfl:=uniq ((yy _ _ _ _).1 (hu' w')) (hu w')
   rw [←pc]; exact hn'
  ·
   obtain ⟨hc,hn⟩:=h
   have hφ: ∃u,∀w',C.c w'→Yd P y a w' u:=wpV_const (qbk (fun v w' ⟨_,_,u,hu,_⟩=>⟨u,fun w'' hc=>(yy _ _ _ _).1 (hu w'' hc)⟩) hn)
   obtain ⟨u,hu⟩:=hφ
   refine ⟨hc,u,hu,hc,(vx _ _ _ _).2 (qbk (fun v w' ⟨hc',_,u',hu',hn'⟩=>⟨hc',?_⟩) hn)⟩
   obtain rfl:=uniq ((yy _ _ _ _).1 (hu' w' hc')) (hu w' hc')
   rw [←pc]; exact hn'
  ·
   obtain ⟨hc,hn⟩:=h
   have hφ: ∃u,∀w',C.d w'→Yd P y a w' u:=wpV_const (qbk (fun v w' ⟨_,_,u,hu,_⟩=>⟨u,fun w'' hc=>(yy _ _ _ _).1 (hu w'' hc)⟩) hn)
   obtain ⟨u,hu⟩:=hφ
   refine ⟨C.h _ hc,u,hu,hc,(vx _ _ _ _).2 (qbk (fun v w' ⟨hc',hd',u',hu',hn'⟩=>⟨hc',?_⟩) hn)⟩
   obtain rfl:=uniq ((yy _ _ _ _).1 (hu' w' hd')) (hu w' hd')
   rw [←pc]; exact hn'
  -- hard first
  ·
   obtain ⟨hc,hn⟩:=h
   have hφ: ∃u,∀w',Yd P y a w' u:=wpV_const (qbk (fun v w' ⟨_,u,hu,_⟩=>⟨u,fun w''=>(yy _ _ _ _).1 (hu w'')⟩) hn)
   obtain ⟨u,hu⟩:=hφ
   refine ⟨u,hu,hc,(vx _ _ _ _).2 (qbk (fun v w' ⟨hc',u',hu',hn'⟩=>⟨hc',?_⟩) hn)⟩
   obtain rfl:=uniq ((yy _ _ _ _).1 (hu' w')) (hu w')
   rw [←pc]; exact hn'
  ·
   obtain ⟨hc,hn⟩:=h
   have hφ: ∃u,∀w',C.d w'→Yd P y a w' u:=wpV_const (qbk (fun v w' ⟨_,_,u,hu,_⟩=>⟨u,fun w'' hc=>(yy _ _ _ _).1 (hu w'' hc)⟩) hn)
   obtain ⟨u,hu⟩:=hφ
   refine ⟨hc,u,hu,hc,(vx _ _ _ _).2 (qbk (fun v w' ⟨hc',hd',u',hu',hn'⟩=>⟨hc',?_⟩) hn)⟩
   obtain rfl:=uniq ((yy _ _ _ _).1 (hu' w' hd')) (hu w' hd')
   rw [←pc]; exact hn'
  -- steady first
  ·
   obtain ⟨hc,v,hv,u,hu,hn⟩:=h
   exact ⟨u,fun w'=>(yy _ _ _ _).1 (hu w'),hc,v,fun w' hc'=>(yx _ _ _ _).2 (hv w' hc'),by rw [←pc]; exact hn⟩
  ·
   obtain ⟨hd,v,hv,hc,u,hu,hn⟩:=h
   exact ⟨hc,u,fun w' hc'=>(yy _ _ _ _).1 (hu w' hc'),hd,v,fun w' hc'=>(yx _ _ _ _).2 (hv w' hc'),by rw [←pc]; exact hn⟩
  ·
   obtain ⟨hd,v,hv,hc,hn⟩:=h
   refine ⟨hc,qbk (fun u w' ⟨hc',hn'⟩=>⟨hc',C.h _ hc',v,fun w' hc''=>(yx _ _ _ _).2 (hv w' hc''),by rw [←pc]; exact hn'⟩) ((vy _ _ _ _).1 hn)⟩
  ·
   obtain ⟨hd,v,hv,hc,hn⟩:=h
   refine ⟨hc,qbk (fun u w' ⟨hc',hn'⟩=>⟨hc',hc',v,fun w' hc''=>(yx _ _ _ _).2 (hv w' hc''),by rw [←pc]; exact hn'⟩) ((vy _ _ _ _).1 hn)⟩
  ·
   obtain ⟨hc,v,hv,hd,u,hu,hn⟩:=h
   exact ⟨hd,u,fun w' hc'=>(yy _ _ _ _).1 (hu w' hc'),hc,v,fun w' hc'=>(yx _ _ _ _).2 (hv w' hc'),by rw [←pc]; exact hn⟩
 ·
  cases kx:kdS C.S x<;>simp only [kx] at h⊢
  · obtain ⟨v,hv,hn⟩:=h; exact ⟨v,fun w'=>(yx _ _ _ _).2 (hv w'),by rw [←pc]; exact hn⟩
  · obtain ⟨hc,v,hv,hn⟩:=h; exact ⟨hc,v,fun w' hc'=>(yx _ _ _ _).2 (hv w' hc'),by rw [←pc]; exact hn⟩
  · exact ⟨h.1,(vx _ _ _ _).2 (qbk (fun v w' ⟨hc',hn'⟩=>⟨hc',by rw [←pc]; exact hn'⟩) h.2)⟩
  · exact ⟨h.1,(vx _ _ _ _).2 (qbk (fun v w' ⟨hc',hn'⟩=>⟨hc',by rw [←pc]; exact hn'⟩) h.2)⟩
  · obtain ⟨hc,v,hv,hn⟩:=h; exact ⟨hc,v,fun w' hc'=>(yx _ _ _ _).2 (hv w' hc'),by rw [←pc]; exact hn⟩
 ·
  cases ky:kdS C.S y<;>simp only [ky] at h⊢
  · obtain ⟨v,hv,hn⟩:=h; exact ⟨v,fun w'=>(yy _ _ _ _).1 (hv w'),by rw [←pc]; exact hn⟩
  · obtain ⟨hc,v,hv,hn⟩:=h; exact ⟨hc,v,fun w' hc'=>(yy _ _ _ _).1 (hv w' hc'),by rw [←pc]; exact hn⟩
  · exact ⟨h.1,qbk (fun v w' ⟨hc',hn'⟩=>⟨hc',by rw [←pc]; exact hn'⟩) ((vy _ _ _ _).1 h.2)⟩
  · exact ⟨h.1,qbk (fun v w' ⟨hc',hn'⟩=>⟨hc',by rw [←pc]; exact hn'⟩) ((vy _ _ _ _).1 h.2)⟩
  · obtain ⟨hc,v,hv,hn⟩:=h; exact ⟨hc,v,fun w' hc'=>(yy _ _ _ _).1 (hv w' hc'),by rw [←pc]; exact hn⟩
 · rw [←pc]; exact h

theorem wpOp_of_one {r:Option Nat} {n:Nat} {i:Nat} {o:Oper} {N:Act→World→Prop} {a:Act} {w:World} {Q:Exit→Act→World→Prop} (hd: ∀c,o.op≠.defer c) (hi:ops[i]? =some o) (h:one P ops C o N a w):wpOpIn (wF r) n P ops Q i N a w:=by
 unfold wpOpIn
 simp only [hi]
 unfold one at h
 split
 ·
  rename_i hw
  simp only [hw,if_true] at h
  refine wp_of_wpV hd ?_
  cases hk:kdS C.S o<;>simp only [hk] at h
  · obtain ⟨v,hv,hn⟩:=h; exact (hv w).wpV hn
  · obtain ⟨hc,v,hv,hn⟩:=h; exact (hv w hc).wpV hn
  · exact qbk (fun _ _ hh=>hh.2) h.2
  · exact qbk (fun _ _ hh=>hh.2) h.2
  · obtain ⟨hc,v,hv,hn⟩:=h; exact (hv w hc).wpV hn
 ·
  rename_i hw
  simp only [hw] at h
  exact ⟨fun _ _=>trivial,h⟩

inductive Waits (ops:Array Oper):Nat→Nat→Prop
 | one {i:Nat} {o:Oper} {e:Edge}:ops[i]? =some o→e∈o.after→Region.binds .any e=true→Waits ops i e.on
 | step {i x:Nat} {o:Oper} {e:Edge}:ops[i]? =some o→e∈o.after→Region.binds .any e=true→Waits ops e.on x→Waits ops i x

def maskE (acc:List Nat):List Edge→Nat→Nat
 | [],m=>m
 | e::r,m=>maskE acc r (bif Region.binds .any e then m ||| (1 <<< e.on) ||| acc.getD e.on 0 else m)
def masks:List Oper→List Nat→List Nat
 | [],acc=>acc
 | o::r,acc=>masks r (acc++[maskE acc o.after.toList 0])

theorem maskE_sound {ops:Array Oper} {acc:List Nat} (hacc: ∀i x,(acc.getD i 0).testBit x=true→Waits ops i x) {i:Nat} {o:Oper} (hi:ops[i]? =some o): ∀(es:List Edge),(∀e∈es,e∈o.after)→∀(m:Nat),(∀x,m.testBit x=true→Waits ops i x)→∀x,(maskE acc es m).testBit x=true→Waits ops i x
 | [],_,m,hm,x,h=>hm x h
 | e::r,he,m,hm,x,h=>by
  refine maskE_sound hacc hi r (fun e' h'=>he e' (by simp [h'])) _ (fun y hy=>?_) x h
  cases hb:Region.binds .any e with
  | false=>rw [hb] at hy; exact hm y hy
  | true=>
   rw [hb] at hy
   simp only [cond_true,Nat.testBit_or,Bool.or_eq_true] at hy
   rcases hy with (hy | hy) | hy
   · exact hm y hy
   ·
    have:e.on=y:=by
     rw [Nat.one_shiftLeft,Nat.testBit_two_pow] at hy
     exact of_decide_eq_true hy
    subst this
    exact .one hi (he e (by simp)) hb
   · exact .step hi (he e (by simp)) hb (hacc _ _ hy)

theorem masks_sound {ops:Array Oper}: ∀(r:List Oper) (acc:List Nat),ops.toList.drop acc.length=r→(∀i x,(acc.getD i 0).testBit x=true→Waits ops i x)→∀i x,((masks r acc).getD i 0).testBit x=true→Waits ops i x
 | [],_,_,hacc=>hacc
 | o::r,acc,hr,hacc=>by
  have h0:ops[acc.length]? =some o:=by
   have:=congrArg (·[0]?) hr
   simpa [List.getElem?_drop] using this
  refine masks_sound r _ ?_ fun i x h=>?_
  · rw [List.length_append,←List.drop_drop,hr]; rfl
  ·
   rcases Nat.lt_trichotomy i acc.length with hi | hi | hi
   ·
    refine hacc i x ?_
    rwa [List.getD_eq_getElem?_getD,List.getElem?_append_left hi,←List.getD_eq_getElem?_getD] at h
   ·
    subst hi
    rw [List.getD_eq_getElem?_getD,List.getElem?_append_right (Nat.le_refl _),Nat.sub_self] at h
    exact maskE_sound hacc h0 _ (fun e he=>Array.mem_toList_iff.1 he) 0 (fun x hx=>by simp at hx) x h
   ·
    rw [List.getD_eq_getElem?_getD,List.getElem?_eq_none (by simp; omega)] at h
    simp at h

def noSel (o:Oper):Bool:=match o.op with | .select .. =>false | .defer _=>false | _=>true
theorem noSel_defer {o:Oper} (h:noSel o=true): ∀c,o.op≠.defer c:=fun c e=>by simp [noSel,e] at h

def pairB (S:List Nat) (ops:Array Oper) (m:Nat) (ox oi:Oper) (x:Nat):Bool:=m.testBit x || (ox.apart ops oi&&okPair (kdS S ox) (kdS S oi))
def rowB (S:List Nat) (ops:Array Oper) (m:Nat) (oi:Oper):List Oper→Nat→Bool
 | [],_=>true
 | ox::r,x=>pairB S ops m ox oi x&&rowB S ops m oi r (x+1)
def allB (S:List Nat) (ops:Array Oper):List Oper→List Oper→List Nat→Bool
 | [],_,_=>true
 | oi::r,before,ms=>rowB S ops (ms.headD 0) oi before 0&&allB S ops r (before++[oi]) ms.tail
def backB (ops:Array Oper):Bool:=(List.range ops.size).all fun i=>match ops[i]? with | none=>true | some o=>o.after.all fun e=>!Region.binds .any e || decide (e.on<i)
def mixB (S:List Nat) (ops:Array Oper):Bool:=(ops.all noSel&&backB ops)&&allB S ops ops.toList [] (masks ops.toList [])

theorem rowB_get {S:List Nat} {ops:Array Oper} {m:Nat} {oi:Oper}: ∀{l:List Oper} {k:Nat},rowB S ops m oi l k=true→∀j o,l[j]? =some o→pairB S ops m o oi (k+j)=true
 | [],_,_,j,o,h=>by simp at h
 | a::r,k,h,j,o,ho=>by
  simp only [rowB,Bool.and_eq_true] at h
  cases j with
  | zero=>simp at ho; subst ho; exact h.1
  | succ j=>rw [show k+(j+1)=(k+1)+j by omega]; exact rowB_get h.2 j o (by simpa using ho)
theorem allB_get {S:List Nat} {ops:Array Oper}: ∀{l before:List Oper} {ms:List Nat},allB S ops l before ms=true→∀j oi,l[j]? =some oi→∀x ox,(before++l.take j)[x]? =some ox→pairB S ops (ms.getD j 0) ox oi x=true
 | [],_,_,_,j,oi,h=>by simp at h
 | a::r,before,ms,h,j,oi,hj=>by
  simp only [allB,Bool.and_eq_true] at h
  intro x ox hx
  cases j with
  | zero=>
   simp at hj; subst hj
   simp at hx
   have:=rowB_get h.1 x ox hx
   rw [Nat.zero_add] at this
   cases ms<;>simpa using this
  | succ j=>
   have:=allB_get h.2 j oi (by simpa using hj) x ox (by simpa using hx)
   cases ms<;>simpa using this
theorem mixB_pair {S:List Nat} {ops:Array Oper} (h:mixB S ops=true) {x i:Nat} {ox oi:Oper} (hx:ops[x]? =some ox) (hi:ops[i]? =some oi) (hlt:x<i):Waits ops i x∨(ox.apart ops oi=true∧okPair (kdS S ox) (kdS S oi)=true):=by
 simp only [mixB,Bool.and_eq_true] at h
 have h1:=allB_get h.2 i oi (by simpa using hi) x ox (by rw [List.nil_append,List.getElem?_take_of_lt hlt]; simpa using hx)
 simp only [pairB,Bool.or_eq_true,Bool.and_eq_true] at h1
 rcases h1 with h1 | h1
 · exact .inl (masks_sound ops.toList [] rfl (fun i x h=>by simp at h) i x h1)
 · exact .inr h1

def Closed (ops:Array Oper) (listed:Array Bool):Prop:=
 ∀i o,ops[i]? =some o→listed.getD i false=true→∀e∈o.after,Region.binds .any e=true→listed.getD e.on false=true

theorem waits_listed {listed:Array Bool} (hc:Closed ops listed) {i x:Nat} (h:Waits ops i x)
  (hi: ∀o,ops[i]? =some o→∀e∈o.after,Region.binds .any e=true→listed.getD e.on false=true):listed.getD x false=true:=by
 induction h with
 | one ho he hb=>exact hi _ ho _ he hb
 | step ho he hb _ ih=>exact ih fun o' ho' e' he' hb'=>hc _ _ ho' (hi _ ho _ he hb) e' he' hb'

def opsAt (ops:Array Oper) (L:List Nat):List Oper:=L.filterMap fun i=>ops[i]?

theorem mix_front {listed:Array Bool} (hc:Closed ops listed) (hB:mixB C.S ops=true) {i:Nat} {oi:Oper} (hi:ops[i]? =some oi)
  (hready: ∀e∈oi.after,Region.binds .any e=true→listed.getD e.on false=true) (L2:List Nat):
  ∀(L1:List Nat),(∀x∈L1,x<i∧listed.getD x false=false)→∀(a:Act) (w:World),mix P ops C K (opsAt ops (L1++i::L2)) a w→
   one P ops C oi (mix P ops C K (opsAt ops (L1++L2))) a w
 | [],_,a,w,h=>by simpa [opsAt,hi,mix] using h
 | x::L1,hx,a,w,h=>by
  have hxi:=(hx x (by simp)).1
  have hil:i<ops.size:=(Array.getElem?_eq_some_iff.1 hi).1
  obtain ⟨ox,hox⟩: ∃o,ops[x]? =some o:=⟨ops[x],Array.getElem?_eq_getElem (by omega)⟩
  have hp:ox.apart ops oi=true∧okPair (kdS C.S ox) (kdS C.S oi)=true:=by
   rcases mixB_pair hB hox hi hxi with h1 | h1
   ·
    have:=waits_listed hc h1 fun o ho e he hb=>by rw [hi] at ho; injection ho with ho; subst ho; exact hready e he hb
    rw [(hx x (by simp)).2] at this; cases this
   · exact h1
  have hB':=hB
  simp only [mixB,Bool.and_eq_true] at hB'
  have sel: ∀(j:Nat) (o:Oper),ops[j]? =some o→∀cs b,o.op≠.select cs b:=fun j o ho cs b he=>by
   have hjl:=(Array.getElem?_eq_some_iff.1 ho).1
   have:=Array.all_eq_true.1 hB'.1.1 j hjl
   rw [(Array.getElem?_eq_some_iff.1 ho).2] at this
   simp [noSel,he] at this
  have e1:opsAt ops (x::L1++i::L2)=ox::opsAt ops (L1++i::L2):=by simp [opsAt,hox]
  have e2:opsAt ops (x::L1++L2)=ox::opsAt ops (L1++L2):=by simp [opsAt,hox]
  rw [e1] at h
  rw [e2]
  simp only [mix] at h⊢
  refine one_swap (sel x ox hox) (sel i oi hi) hp.1 hp.2 (one_mono (fun a w hh=>?_) h)
  exact mix_front hc hB hi hready L2 L1 (fun y hy=>hx y (by simp [hy])) a w hh

theorem closed_set {listed:Array Bool} {i:Nat} {oi:Oper} (hc:Closed ops listed) (hi:ops[i]? =some oi)
  (hready: ∀e∈oi.after,Region.binds .any e=true→listed.getD e.on false=true):Closed ops (listed.setIfInBounds i true):=by
 intro j o ho hl e he hb
 refine getD_set_true ?_
 by_cases hij:i=j
 · subst hij; rw [hi] at ho; injection ho with ho; subst ho; exact hready e he hb
 · rw [getD_set_ne false hij] at hl; exact hc j o ho hl e he hb

def pend (ops:Array Oper) (listed:Array Bool):List Nat:=(List.range ops.size).filter fun i=>!listed.getD i true

theorem range_cut {n i:Nat} (h:i<n):List.range n=List.range' 0 i++i::List.range' (i+1) (n-i-1):=by
 obtain ⟨m,rfl⟩: ∃m,n=i+(m+1):=⟨n-i-1,by omega⟩
 rw [List.range_eq_range',←List.range'_append_1,List.range'_succ,show i+(m+1)-i-1=m from by omega]
 simp

theorem pend_cut {listed:Array Bool} {i:Nat} (h:i<ops.size) (hl:listed.getD i true=false) (hs:listed.size=ops.size):
  ∃L1 L2,pend ops listed=L1++i::L2∧pend ops (listed.setIfInBounds i true)=L1++L2∧∀x∈L1,x<i∧listed.getD x false=false:=by
 refine ⟨(List.range' 0 i).filter fun i=>!listed.getD i true,(List.range' (i+1) (ops.size-i-1)).filter fun i=>!listed.getD i true,?_,?_,?_⟩
 ·
  unfold pend
  rw [range_cut h,List.filter_append,List.filter_cons,if_pos (by simp [hl])]
 ·
  unfold pend
  rw [range_cut h,List.filter_append,List.filter_cons]
  have hi:(listed.setIfInBounds i true).getD i true=true:=by simp [hs,h]
  rw [if_neg (by simp [hi])]
  congr 1
  ·
   refine List.filter_congr fun x hx=>?_
   rw [getD_set_ne true (by have:=(List.mem_range'_1.1 hx).2; omega)]
  ·
   refine List.filter_congr fun x hx=>?_
   rw [getD_set_ne true (by have:=(List.mem_range'_1.1 hx).1; omega)]
 ·
  intro x hx
  obtain ⟨h1,h2⟩:=List.mem_filter.1 hx
  have hxi:x<i:=by have:=(List.mem_range'_1.1 h1).2; omega
  refine ⟨hxi,?_⟩
  have hxs:x<listed.size:=by omega
  simp [hxs] at h2⊢
  exact h2

theorem some_ready {listed:Array Bool} (hB:backB ops=true) (hs:listed.size=ops.size): ∀(i:Nat),i<ops.size→listed.getD i true=false→Region.ready .any ops listed≠[]:=by
 intro i
 induction i using Nat.strongRecOn with
 | _ i ih=>
  intro h hl
  have ho:ops[i]? =some ops[i]:=Array.getElem?_eq_getElem h
  by_cases hall: ∀e∈ops[i].after,Region.binds .any e=true→listed.getD e.on false=true
  · exact List.ne_nil_of_mem (mem_ready.2 ⟨hl,_,ho,hall⟩)
  ·
   simp only [Classical.not_forall] at hall
   obtain ⟨e,he,hb,hn⟩:=hall
   have hback:=List.all_eq_true.1 hB i (by simpa using h)
   rw [ho] at hback
   obtain ⟨k,hk,rfl⟩:=Array.mem_iff_getElem.1 he
   have hlt:=Array.all_eq_true.1 hback k hk
   simp only [hb,Bool.not_true,Bool.false_or,decide_eq_true_eq] at hlt
   refine ih _ hlt (by omega) ?_
   have hsz:ops[i].after[k].on<listed.size:=by omega
   simp [hsz] at hn⊢
   exact hn

theorem pend_len {L1 L2:List Nat} {i:Nat}:(L1++L2).length+1=(L1++i::L2).length:=by simp; omega

theorem any_of_mix {r:Option Nat} {n:Nat} (hB:mixB C.S ops=true) {Q:Exit→Act→World→Prop} (hQ: ∀a w,K a w→Q .normal a w): ∀(fuel:Nat) (listed:Array Bool),listed.size=ops.size→Closed ops listed→
  (pend ops listed).length≤fuel→∀(a:Act) (w:World),mix P ops C K (opsAt ops (pend ops listed)) a w→wpAnyIn (wF r) n P .any ops Q fuel listed a w:=by
 have hB':=hB
 simp only [mixB,Bool.and_eq_true] at hB'
 have emp: ∀(listed:Array Bool),listed.size=ops.size→Region.ready .any ops listed=[]→pend ops listed=[]:=by
  intro listed hs hr
  refine List.filter_eq_nil_iff.2 fun i hi=>?_
  have hlt:i<ops.size:=by simpa using hi
  cases hl:listed.getD i true with
  | true=>simp
  | false=>exact absurd hr (some_ready hB'.1.2 hs i hlt hl)
 intro fuel
 induction fuel with
 | zero=>
  intro listed hs hc hlen a w h
  have h0:pend ops listed=[]:=List.eq_nil_of_length_eq_zero (by omega)
  refine ⟨?_,?_⟩
  ·
   refine List.eq_nil_iff_forall_not_mem.2 fun i hi=>?_
   obtain ⟨hl,o,ho,_⟩:=mem_ready.1 hi
   have:i∈pend ops listed:=List.mem_filter.2 ⟨by simpa using (Array.getElem?_eq_some_iff.1 ho).1,by simp [hl]⟩
   rw [h0] at this; cases this
  · rw [h0] at h; exact hQ _ _ h
 | succ fuel ih=>
  intro listed hs hc hlen a w h
  refine ⟨fun hr=>?_,fun i hi=>?_⟩
  · rw [emp listed hs hr] at h; exact hQ _ _ h
  ·
   obtain ⟨hl,o,ho,hready⟩:=mem_ready.1 hi
   have hlt:=(Array.getElem?_eq_some_iff.1 ho).1
   obtain ⟨L1,L2,e1,e2,hL1⟩:=pend_cut (ops:=ops) hlt hl hs
   rw [e1] at h hlen
   refine wpOp_of_one (C:=C) (noSel_defer (by have:=Array.all_eq_true.1 hB'.1.1 i hlt; rwa [(Array.getElem?_eq_some_iff.1 ho).2] at this)) ho (one_mono (fun a' w' hh=>?_) (mix_front hc hB ho hready L2 L1 hL1 a w h))
   refine ih _ (by simpa using hs) (closed_set hc ho hready) ?_ a' w' (by rw [e2]; exact hh)
   rw [e2]; have:=pend_len (L1:=L1) (L2:=L2) (i:=i); omega

/-! Regions with effects whose order is open:a plan for each order. -/
inductive Plan where
 | done
 | op (i:Nat) (p:Plan)
 | alt (p q:Plan)
 deriving DecidableEq

def mixP (P:Program) (ops:Array Oper) (C:Frm) (K:Act→World→Prop):Plan→Act→World→Prop
 | .done,a,w=>K a w
 | .op i p,a,w=>match ops[i]? with | some o=>one P ops C o (mixP P ops C K p) a w | none=>mixP P ops C K p a w
 | .alt p q,a,w=>mixP P ops C K p a w∧mixP P ops C K q a w

def okJ (S:List Nat) (ops:Array Oper) (j i:Nat):Bool:=match ops[j]?,ops[i]? with | some oj,some oi=>oj.apart ops oi&&okPair (kdS S oj) (kdS S oi) | _,_=>false
def effB (S:List Nat) (ops:Array Oper) (i:Nat):Bool:=match ops[i]? with | some o=>isEff (kdS S o) | none=>true
def frontP (S:List Nat) (ops:Array Oper) (i:Nat):Plan→Option Plan
 | .done=>none
 | .op j p=>bif j == i then some p else bif okJ S ops j i then (frontP S ops i p).map (.op j) else none
 | .alt p q=>bif effB S ops i then (match frontP S ops i p with | some p'=>some p' | none=>frontP S ops i q)
  else (match frontP S ops i p,frontP S ops i q with | some p',some q'=>some (.alt p' q') | _,_=>none)

theorem one_and {o:Oper} {N N':Act→World→Prop} {a:Act} {w:World} (he:isEff (kdS C.S o)=false) (h:one P ops C o N a w) (h':one P ops C o N' a w):one P ops C o (fun a w=>N a w∧N' a w) a w:=by
 have uniq: ∀{u u':Value},Yd P o a w u'→Yd P o a w u→u'=u:=fun e1 e2=>by
  unfold Yd at e1 e2; rw [e1] at e2; injection e2 with e2 _; injection e2
 unfold one at*
 split
 ·
  rename_i hw
  simp only [hw,if_true] at h h'
  cases hk:kdS C.S o<;>simp only [hk,isEff] at h h' he⊢ <;>first | (exact absurd he (by decide)) | skip
  ·
   obtain ⟨v,h1,h2⟩:=h; obtain ⟨v',h3,h4⟩:=h'
   obtain rfl:=uniq (h1 w) (h3 w); exact ⟨v,h1,h2,h4⟩
  ·
   obtain ⟨hc,v,h1,h2⟩:=h; obtain ⟨_,v',h3,h4⟩:=h'
   obtain rfl:=uniq (h1 w hc) (h3 w hc); exact ⟨hc,v,h1,h2,h4⟩
  ·
   obtain ⟨hc,v,h1,h2⟩:=h; obtain ⟨_,v',h3,h4⟩:=h'
   obtain rfl:=uniq (h1 w hc) (h3 w hc); exact ⟨hc,v,h1,h2,h4⟩
 ·
  rename_i hw
  simp only [hw] at h h'
  exact ⟨h,h'⟩

theorem qhh (hsel:ops.all noSel=true) {i:Nat} {oi:Oper} (hi:ops[i]? =some oi): ∀(p:Plan) {p':Plan},frontP C.S ops i p=some p'→∀{a:Act} {w:World},mixP P ops C K p a w→one P ops C oi (mixP P ops C K p') a w
 | .done,_,h,_,_,_=>by simp [frontP] at h
 | .op j p,p',h,a,w,hm=>by
  have sel: ∀(j:Nat) (o:Oper),ops[j]? =some o→∀cs b,o.op≠.select cs b:=fun j o ho cs b he=>by
   have hjl:=(Array.getElem?_eq_some_iff.1 ho).1
   have:=Array.all_eq_true.1 hsel j hjl
   rw [(Array.getElem?_eq_some_iff.1 ho).2] at this
   simp [noSel,he] at this
  simp only [frontP] at h
  cases hji:j == i with
  | true=>
   rw [hji] at h
   simp only [cond_true] at h
   injection h with h
   subst h
   have:j=i:=eq_of_beq hji
   subst this
   simpa only [mixP,hi] using hm
  | false=>
   rw [hji] at h
   simp only [cond_false] at h
   cases hok:okJ C.S ops j i with
   | false=>rw [hok] at h; simp at h
   | true=>
    rw [hok] at h
    simp only [cond_true] at h
    obtain ⟨q,hq,rfl⟩:=Option.map_eq_some_iff.1 h
    unfold okJ at hok
    rw [hi] at hok
    cases hj:ops[j]? with
    | none=>rw [hj] at hok; simp at hok
    | some oj=>
     rw [hj] at hok
     simp only [Bool.and_eq_true] at hok
     simp only [mixP,hj] at hm
     have hc:mixP P ops C K (.op j q)=one P ops C oj (mixP P ops C K q):=by funext a w; simp only [mixP,hj]
     rw [hc]
     exact one_swap (sel j oj hj) (sel i oi hi) hok.1 hok.2 (one_mono (fun a w hh=>qhh hsel hi p hq hh) hm)
 | .alt p q,p',h,a,w,hm=>by
  simp only [frontP] at h
  have hme:mixP P ops C K (.alt p q) a w=(mixP P ops C K p a w∧mixP P ops C K q a w):=rfl
  rw [hme] at hm
  cases he:effB C.S ops i with
  | true=>
   rw [he] at h
   simp only [cond_true] at h
   cases h1:frontP C.S ops i p with
   | some p1=>rw [h1] at h; injection h with h; subst h; exact qhh hsel hi p h1 hm.1
   | none=>rw [h1] at h; exact qhh hsel hi q h hm.2
  | false=>
   rw [he] at h
   simp only [cond_false] at h
   cases h1:frontP C.S ops i p with
   | none=>rw [h1] at h; simp at h
   | some p1=>
    cases h2:frontP C.S ops i q with
    | none=>rw [h1,h2] at h; simp at h
    | some q1=>
     rw [h1,h2] at h
     injection h with h
     subst h
     unfold effB at he
     rw [hi] at he
     exact one_and he (qhh hsel hi p h1 hm.1) (qhh hsel hi q h2 hm.2)

abbrev PSt:=Nat×Plan
def readyB (ops:Array Oper) (m i:Nat):Bool:=match ops[i]? with | some o=>o.after.all fun e=>!Region.binds .any e || m.testBit e.on | none=>false
def succP (S:List Nat) (ops:Array Oper) (s:PSt):List Nat→Option (List PSt)
 | []=>some []
 | i::r=>bif s.1.testBit i || !readyB ops s.1 i then succP S ops s r else
  match frontP S ops i s.2,succP S ops s r with | some p',some l=>some ((s.1 ||| (1 <<< i),p')::l) | _,_=>none
def addP (s:PSt) (l:List PSt):List PSt:=bif l.any fun t=>Nat.beq t.1 s.1&&decide (t.2=s.2) then l else s::l
def nextP (S:List Nat) (ops:Array Oper):List PSt→Option (List PSt)
 | []=>some []
 | s::r=>match succP S ops s (List.range ops.size),nextP S ops r with | some l,some l'=>some (l.foldr addP l') | _,_=>none
def levels (S:List Nat) (ops:Array Oper):Nat→List PSt→Bool
 | 0,L=>L.all fun s=>decide (s.2=.done)
 | k+1,L=>match nextP S ops L with | some L'=>levels S ops k L' | none=>false
def planB (S:List Nat) (ops:Array Oper) (p:Plan):Bool:=(ops.all noSel&&backB ops)&&levels S ops ops.size [(0,p)]

theorem addP_old {s t:PSt} {l:List PSt} (h:t∈l):t∈addP s l:=by
 unfold addP
 cases l.any fun t=>Nat.beq t.1 s.1&&decide (t.2=s.2) with
 | true=>exact h
 | false=>exact List.mem_cons_of_mem _ h
theorem addP_new {s:PSt} {l:List PSt}:s∈addP s l:=by
 unfold addP
 cases h:l.any fun t=>Nat.beq t.1 s.1&&decide (t.2=s.2) with
 | true=>
  obtain ⟨t,ht,h1⟩:=List.any_eq_true.1 h
  simp only [Bool.and_eq_true,decide_eq_true_eq] at h1
  have:t=s:=Prod.ext (Nat.eq_of_beq_eq_true h1.1) h1.2
  subst this; exact ht
 | false=>exact List.mem_cons_self
theorem foldr_old {t:PSt}: ∀{l l':List PSt},t∈l'→t∈l.foldr addP l'
 | [],_,h=>h
 | _::l,_,h=>addP_old (foldr_old (l:=l) h)
theorem foldr_new {t:PSt}: ∀{l l':List PSt},t∈l→t∈l.foldr addP l'
 | s::l,l',h=>by
  rcases List.mem_cons.1 h with rfl | h
  · exact addP_new
  · exact addP_old (foldr_new h)
theorem nextP_mem {S:List Nat}: ∀{L L':List PSt},nextP S ops L=some L'→∀s∈L,∃l,succP S ops s (List.range ops.size)=some l∧∀t∈l,t∈L'
 | [],_,_,s,hs=>absurd hs List.not_mem_nil
 | s0::r,L',h,s,hs=>by
  simp only [nextP] at h
  cases h1:succP S ops s0 (List.range ops.size) with
  | none=>rw [h1] at h; cases h
  | some l=>
   cases h2:nextP S ops r with
   | none=>rw [h1,h2] at h; cases h
   | some l'=>
    rw [h1,h2] at h
    injection h with h
    subst h
    rcases List.mem_cons.1 hs with rfl | hs
    · exact ⟨l,h1,fun t ht=>foldr_new ht⟩
    ·
     obtain ⟨l2,h3,h4⟩:=nextP_mem h2 s hs
     exact ⟨l2,h3,fun t ht=>foldr_old (h4 t ht)⟩
theorem succP_mem {S:List Nat} {s:PSt}: ∀{r:List Nat} {l:List PSt},succP S ops s r=some l→∀i∈r,s.1.testBit i=false→readyB ops s.1 i=true→∃p',frontP S ops i s.2=some p'∧(s.1 ||| (1 <<< i),p')∈l
 | [],_,_,i,hi,_,_=>absurd hi List.not_mem_nil
 | j::r,l,h,i,hi,hb,hr=>by
  simp only [succP] at h
  cases hc:(s.1.testBit j || !readyB ops s.1 j) with
  | true=>
   rw [hc] at h
   rcases List.mem_cons.1 hi with rfl | hi
   · simp [hb,hr] at hc
   · exact succP_mem h i hi hb hr
  | false=>
   rw [hc] at h
   simp only [cond_false] at h
   cases h1:frontP S ops j s.2 with
   | none=>rw [h1] at h; cases h
   | some p'=>
    cases h2:succP S ops s r with
    | none=>rw [h1,h2] at h; cases h
    | some l'=>
     rw [h1,h2] at h
     injection h with h
     subst h
     rcases List.mem_cons.1 hi with rfl | hi
     · exact ⟨p',h1,List.mem_cons_self⟩
     ·
      obtain ⟨q,h3,h4⟩:=succP_mem h2 i hi hb hr
      exact ⟨q,h3,List.mem_cons_of_mem _ h4⟩

theorem any_of_levels {r:Option Nat} {n:Nat} (hsel:ops.all noSel=true) (hback:backB ops=true) {Q:Exit→Act→World→Prop} (hQ: ∀a w,K a w→Q .normal a w): ∀(k:Nat) (L:List PSt),levels C.S ops k L=true→∀s∈L,∀(listed:Array Bool),listed.size=ops.size→Closed ops listed→
  (∀i,i<ops.size→listed.getD i true=s.1.testBit i)→(pend ops listed).length=k→∀(a:Act) (w:World),mixP P ops C K s.2 a w→wpAnyIn (wF r) n P .any ops Q k listed a w:=by
 intro k
 induction k with
 | zero=>
  intro L hL s hs listed hsz hc hm hlen a w h
  have h0:pend ops listed=[]:=List.eq_nil_of_length_eq_zero hlen
  refine ⟨?_,?_⟩
  ·
   refine List.eq_nil_iff_forall_not_mem.2 fun i hi=>?_
   obtain ⟨hl,o,ho,_⟩:=mem_ready.1 hi
   have:i∈pend ops listed:=List.mem_filter.2 ⟨by simpa using (Array.getElem?_eq_some_iff.1 ho).1,by simp [hl]⟩
   rw [h0] at this; cases this
  ·
   have:=List.all_eq_true.1 hL s hs
   simp only [decide_eq_true_eq] at this
   rw [this] at h
   exact hQ _ _ h
 | succ k ih=>
  intro L hL s hs listed hsz hc hm hlen a w h
  simp only [levels] at hL
  cases hn:nextP C.S ops L with
  | none=>rw [hn] at hL; cases hL
  | some L'=>
   rw [hn] at hL
   obtain ⟨l,hl1,hl2⟩:=nextP_mem hn s hs
   refine ⟨fun hr=>?_,fun i hi=>?_⟩
   ·
    exfalso
    have hne:pend ops listed≠[]:=fun e=>by rw [e] at hlen; simp at hlen
    obtain ⟨i,hi⟩:=List.exists_mem_of_ne_nil _ hne
    obtain ⟨h1,h2⟩:=List.mem_filter.1 hi
    exact some_ready hback hsz i (by simpa using h1) (by simpa using h2) hr
   ·
    obtain ⟨hl,o,ho,hready⟩:=mem_ready.1 hi
    have hlt:=(Array.getElem?_eq_some_iff.1 ho).1
    have hrb:readyB ops s.1 i=true:=by
     unfold readyB
     rw [ho]
     refine Array.all_eq_true.2 fun j hj=>?_
     cases hb:Region.binds .any o.after[j] with
     | false=>rfl
     | true=>
      have h1:=hready _ (Array.getElem_mem hj) hb
      have hback':=List.all_eq_true.1 hback i (by simpa using hlt)
      rw [ho] at hback'
      have hon:=Array.all_eq_true.1 hback' j hj
      simp only [hb,Bool.not_true,Bool.false_or,decide_eq_true_eq] at hon
      have hlo:o.after[j].on<listed.size:=by omega
      rw [Bool.not_true,Bool.false_or,←hm _ (by omega)]
      simp [hlo] at h1⊢
      exact h1
    obtain ⟨p',hf,hmem⟩:=succP_mem hl1 i (by simpa using hlt) (by rw [←hm i hlt]; exact hl) hrb
    obtain ⟨L1,L2,e1,e2,hL1⟩:=pend_cut (ops:=ops) hlt hl hsz
    refine wpOp_of_one (C:=C) (noSel_defer (by have:=Array.all_eq_true.1 hsel i hlt; rwa [(Array.getElem?_eq_some_iff.1 ho).2] at this)) ho (one_mono (fun a' w' hh=>?_) (qhh hsel ho s.2 hf h))
    refine ih L' hL _ (hl2 _ hmem) _ (by simpa using hsz) (closed_set hc ho hready) (fun j hj=>?_) ?_ a' w' hh
    ·
     by_cases hij:i=j
     ·
      subst hij
      simp [hsz,hlt]
     ·
      rw [getD_set_ne true hij,hm j hj]
      simp only [Nat.testBit_or,Nat.one_shiftLeft,Nat.testBit_two_pow]
      simp [hij]
    ·
     rw [e1] at hlen
     have:=pend_len (L1:=L1) (L2:=L2) (i:=i)
     rw [e2]; omega

theorem filterMap_some {α β:Type} {f:α→Option β} {g:α→β}: ∀(l:List α),(∀i∈l,f i=some (g i))→l.filterMap f=l.map g
 | [],_=>rfl
 | x::l,h=>by rw [List.filterMap_cons,h x (by simp),List.map_cons,filterMap_some l fun i hi=>h i (by simp [hi])]

theorem opsAt_all:opsAt ops (pend ops (Array.replicate ops.size false))=ops.toList:=by
 have h1:pend ops (Array.replicate ops.size false)=List.range ops.size:=by
  refine List.filter_eq_self.2 fun i hi=>?_
  have hlt:i<ops.size:=by simpa using hi
  simp [hlt]
 rw [h1]
 unfold opsAt
 apply List.ext_getElem?
 intro j
 have:(List.range ops.size).filterMap (fun i=>ops[i]?)=(List.range ops.size).map (fun i=>ops.getD i default):=by
  refine filterMap_some _ fun i hi=>?_
  have hlt:i<ops.size:=by simpa using hi
  simp [hlt]
 rw [this]
 by_cases hj:j<ops.size
 · simp [hj]
 · simp [hj]

theorem wp_region_plan {r:Option Nat} {n:Nat} {id:Nat} {Q:Exit→Act→World→Prop} {a:Act} {w:World} (C:Frm) (p:Plan) (hm:P.follows .mixedOrders=true) (hB:planB C.S ops p=true)
  (h:mixP P ops C (fun a w=>Q .normal a w) p a { w with drawn:=w.drawn+1 }):(Code.region id ops true).wpIn (wF r) n P Q a w:=by
 simp only [planB,Bool.and_eq_true] at hB
 refine wpIn_region_any hm (any_of_levels (C:=C) hB.1.1 hB.1.2 (fun _ _ h=>h) _ _ hB.2 (0,p) (by simp) _ (by simp) ?_ ?_ ?_ a _ h)
 ·
  intro i o ho hl
  have hlt:=(Array.getElem?_eq_some_iff.1 ho).1
  simp [hlt] at hl
 ·
  intro i hi
  simp [hi]
 ·
  unfold pend
  have h1:(List.range ops.size).filter (fun i=>!(Array.replicate ops.size false).getD i true)=List.range ops.size:=by
   refine List.filter_eq_self.2 fun i hi=>?_
   have hlt:i<ops.size:=by simpa using hi
   simp [hlt]
  rw [h1]
  simp

theorem wp_region_mix {r:Option Nat} {n:Nat} {id:Nat} {Q:Exit→Act→World→Prop} {a:Act} {w:World} (C:Frm) (hm:P.follows .mixedOrders=true) (hB:mixB C.S ops=true)
  (h:mix P ops C (fun a w=>Q .normal a w) ops.toList a { w with drawn:=w.drawn+1 }):(Code.region id ops true).wpIn (wF r) n P Q a w:=by
 refine wpIn_region_any hm (any_of_mix (C:=C) hB (fun _ _ h=>h) _ _ (by simp) ?_ ?_ a _ ?_)
 ·
  intro i o ho hl
  have hlt:=(Array.getElem?_eq_some_iff.1 ho).1
  simp [hlt] at hl
 ·
  unfold pend
  exact Nat.le_trans (List.length_filter_le _ _) (by simp)
 · rw [opsAt_all]; exact h
