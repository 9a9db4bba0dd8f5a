/-
  1.
-/
import Derived.Test.YtpabnmeponmonaaGreatDoorCards
import Derived.Test.YtpabnmeponmonaaGreatDoorProg
import Derived.Test.YtpabnmeponmonaaGreatDoorRows
import Derived.Test.YtpabnmeponmonaaGreatDoorTie
import Derived.WalkKit
import Derived.Deep.LoopGhost
import Derived.OrdersHeld
import Derived.KernelRfl
import Derived.Deep.AppendSrc
import Derived.Laws.OwnMore
import Derived.Lib.ConvBytes
import Derived.IntWalk
import Derived.Great.BuildSlice
import Derived.Laws.StructEq
import Derived.LaidEqlPtr
import Derived.MapKept
import Derived.Carry
import Derived.Lib.Bytealg
import Derived.Scope
import Derived.Laws.IdiomRangeMap
import Derived.RangeFuncLeaves
import Derived.OrdersIn
import Derived.TacticsIn
import Derived.Conc.AtomicLaws2
import Derived.Shelf.Small.Bits
import Derived.Shelf.Sort.Plain
import Derived.ProofKit
import Derived.OpenShut
import Derived.SizedLaws
import Derived.Deep.Slices
import Derived.MakeChecks
import Derived.FnData
import Derived.JoinedCond
import Derived.Deep.DeepHandedRow
import Derived.LaidMore
import Derived.SevenTiedAt
set_option maxRecDepth 10000
set_option maxHeartbeats 4000000
open List Go.Proofs.Tryz
namespace Go.Sl
theorem sOZ {p : Prop} (h : p := by simp only; omega) : p := h
theorem oZ {p:Prop}(h:p:=by omega):p:=h
theorem dZ {p:Prop}(h:p:=by decide):p:=h
theorem yZ {p:Prop}(h:p:=by kernel_rfl):p:=h
abbrev Chunk:=List (Nat×Obj)
def Own (w:World)(L:Chunk):Prop:=(L.map (·.1)).Nodup/\∀x∈L,w.heap[x.1]? = some x.2
theorem Own.perm {w:World}{L L':Chunk}(h:Own w L)(p:L.Perm L'):Own w L' :=
 ⟨(p.map (·.1)).nodup_iff.1 h.1,fun x hx=>h.2 x (p.mem_iff.2 hx)⟩
theorem Own.left {w:World}{A B:Chunk}(h:Own w (A++B)):Own w A :=
 ⟨by have:=h.1;rw [map_append,nodup_append] at this;exact this.1,fun x hx=>h.2 x (mem_append_left _ hx)⟩
theorem Own.right {w:World}{A B:Chunk}(h:Own w (A++B)):Own w B :=
 ⟨by have:=h.1;rw [map_append,nodup_append] at this;exact this.2.1,fun x hx=>h.2 x (mem_append_right _ hx)⟩
theorem Own.lt {w:World}{L:Chunk}(h:Own w L){x:Nat×Obj}(hx:x∈L):x.1<w.heap.size:=(Array.getElem?_eq_some_iff.1 (h.2 x hx)).1
theorem uU {w:World}{x:Nat×Obj}{L:Chunk}:Own w (x :: L)↔w.heap[x.1]? = some x.2/\x.1∉L.map (·.1)/\Own w L:=by
 constructor
 ·intro h
  have h1:=h.1
  simp only [map_cons,nodup_cons] at h1
  exact ⟨h.2 x (mem_cons_self ..),h1.1,h1.2,fun y hy=>h.2 y (mem_cons_of_mem _ hy)⟩
 ·rintro ⟨h1,h2,h3⟩
  refine ⟨by simp only [map_cons,nodup_cons];exact ⟨h2,h3.1⟩,fun y hy => ?_⟩
  rcases List.mem_cons.1 hy with rfl | hy
  ·exact h1
  ·exact h3.2 y hy
theorem rZ {w w':World}{L:Chunk}(h:Own w L)(e:∀x∈L,w'.heap[x.1]? = w.heap[x.1]?):Own w' L :=
 ⟨h.1,fun x hx=>(e x hx).trans (h.2 x hx)⟩
structure Tr (w w':World)(A B:Chunk):Prop where
 os:w'.os=w.os
 tape:w'.tape=w.tape
 output:w'.output=w.output
 size:w.heap.size<=w'.heap.size
 own:∀R,Own w (A++R)->Own w' (B++R)
theorem Tr.refl (w:World)(A:Chunk):Tr w w A A:=⟨rfl,rfl,rfl,Nat.le_refl _,fun _ h=>h⟩
theorem Tr.trans {w w1 w2:World}{A B C:Chunk}(h:Tr w w1 A B)(k:Tr w1 w2 B C):Tr w w2 A C :=
 ⟨k.os.trans h.os,k.tape.trans h.tape,k.output.trans h.output,Nat.le_trans h.size k.size,fun R o=>k.own R (h.own R o)⟩
theorem Tr.frame {w w':World}{A B:Chunk}(h:Tr w w' A B)(F:Chunk):Tr w w' (A++F) (B++F) :=
 ⟨h.os,h.tape,h.output,h.size,fun R o=>by rw [append_assoc] at *;exact h.own _ o⟩
theorem Tr.perm {w w':World}{A A' B B':Chunk}(h:Tr w w' A B)(p:A'.Perm A)(q:B.Perm B'):Tr w w' A' B' :=
 ⟨h.os,h.tape,h.output,h.size,fun R o=>(h.own R (o.perm (p.append_right R))).perm (q.append_right R)⟩
theorem Tr.drop {w w':World}{A B C:Chunk}(h:Tr w w' A (B++C)):Tr w w' A B :=
 ⟨h.os,h.tape,h.output,h.size,fun R o=>by
  have h1:=h.own R o
  have h2:Own w' (C++(B++R)):=h1.perm (by
   rw [append_assoc]
   exact (perm_append_comm (l₁:=B) (l₂:=C++R)).trans (by rw [append_assoc];exact (perm_append_comm (l₁:=R) (l₂:=B)).append_left C))
  exact h2.right⟩
theorem Tr.drew {w w':World}{A B:Chunk}(h:Tr w w' A B):Tr w w'.drew A B:=⟨h.os,h.tape,h.output,h.size,fun R o=>h.own R o⟩
theorem Tr.pre {w w':World}{A B:Chunk}(h:Tr w.drew w' A B):Tr w w' A B:=⟨h.os,h.tape,h.output,h.size,fun R o=>h.own R o⟩
theorem uV (w:World)(o:Obj)(A:Chunk):Tr w (w.alloc o) A ((w.heap.size,o) :: A) :=
 ⟨rfl,rfl,rfl,by simp,fun R h=>by
  refine uU.2 ⟨heap_alloc_new w o,fun hm => ?_,rZ h fun x hx=>heap_alloc_old w o (h.lt hx)⟩
  obtain ⟨x,hx,e⟩:=mem_map.1 hm
  have:=h.lt hx
  dsimp only at e
  omega⟩
theorem uW {w w':World}{b:Nat}{o o':Obj}(ho:w'.os=w.os)(ht:w'.tape=w.tape)(hu:w'.output=w.output)(hs:w'.heap.size=w.heap.size)
  (hb:w.heap[b]? = some o->w'.heap[b]? = some o') (hk:∀k,k≠b->w'.heap[k]? = w.heap[k]?) (A:Chunk):Tr w w' ((b,o) :: A) ((b,o') :: A) :=
 ⟨ho,ht,hu,by omega,fun R h=>by
  obtain ⟨h1,h2,h3⟩:=uU.1 h
  refine uU.2 ⟨hb h1,h2,rZ h3 fun x hx=>hk _ fun e=>h2 ?_⟩
  rw [<-e]
  exact mem_map.2 ⟨x,hx,rfl⟩⟩
def Hp (w:World)(Ls:List Chunk):Prop:=Own w Ls.flatten
def mR (w w':World)(As Bs:List Chunk):Prop:=Tr w w' As.flatten Bs.flatten
theorem gh {As Bs:List Chunk}(p:As.Perm Bs):As.flatten.Perm Bs.flatten:=p.flatten
theorem mR.refl (w:World)(As:List Chunk):mR w w As As:=Tr.refl _ _
theorem mR.drew {w w':World}{As Bs:List Chunk}(h:mR w w' As Bs):mR w w'.drew As Bs:=Tr.drew h
def SZ (Ls As Rs:List Chunk):Prop:=Ls.Perm (As++Rs)
theorem IK (Ls:List Chunk):SZ Ls [] Ls:=List.Perm.refl _
theorem CG {Ls As Rs bm:List Chunk}{A:Chunk}(h:Ls.Perm (A :: bm))(k:SZ bm As Rs):SZ Ls (A :: As) Rs:=h.trans (k.cons A)
theorem kR (A:Chunk)(Ls:List Chunk):(A :: Ls).Perm (A :: Ls):=List.Perm.refl _
theorem kS {A B:Chunk}{Ls Rs:List Chunk}(h:Ls.Perm (A :: Rs)):(B :: Ls).Perm (A :: B :: Rs):=(h.cons B).trans (List.Perm.swap A B Rs)
theorem mR.call {w0 w w':World}{As Ls Bs Cs Rs:List Chunk}(T:mR w0 w As Ls)(s:SZ Ls Bs Rs)(t:mR w w' Bs Cs):mR w0 w' As (Cs++Rs):=by
 have h1:Tr w w' (Bs.flatten++Rs.flatten) (Cs.flatten++Rs.flatten):=Tr.frame t _
 refine Tr.trans (Tr.perm T (List.Perm.refl _) ?_) (Tr.perm h1 (List.Perm.refl _) ?_)
 ·rw [<-flatten_append];exact gh s
 ·rw [flatten_append]
theorem mR.only {w w':World}{As Ls Bs Rs:List Chunk}(T:mR w w' As Ls)(s:SZ Ls Bs Rs):mR w w' As Bs:=by
 refine Tr.drop (C:=Rs.flatten) (Tr.perm T (List.Perm.refl _) ?_)
 rw [<-flatten_append];exact gh s
theorem Hp.sel {w:World}{Ls As Rs:List Chunk}(h:Hp w Ls)(s:SZ Ls As Rs):Hp w As:=by
 have h1:Own w (As.flatten++Rs.flatten):=by rw [<-flatten_append];exact Own.perm h (gh s)
 exact h1.left
structure St (w0:World)(As:List Chunk)(w:World)(Ls:List Chunk):Prop where
 NT:Hp w0 As
 tr:mR w0 w As Ls
section
variable {w0 w w':World}{As Ls Bs Cs Rs:List Chunk}
theorem St.begin (h:Hp w As):St w As w As:=⟨h,mR.refl _ _⟩
theorem St.hp (S:St w0 As w Ls):Hp w Ls:=by
 have h:=S.tr.own [] (by rw [append_nil];exact S.NT)
 rw [append_nil] at h
 exact h
theorem St.call (S:St w0 As w Ls)(s:SZ Ls Bs Rs)(t:mR w w' Bs Cs):St w0 As w' (Cs++Rs):=⟨S.NT,S.tr.call s t⟩
theorem St.Xb {C:Chunk}(S:St w0 As w Ls)(s:SZ Ls Bs Rs)(t:mR w w' Bs [C]):St w0 As w' (C :: Rs):=S.call s t
theorem St.drew (S:St w0 As w Ls):St w0 As w.drew Ls:=⟨S.NT,S.tr.drew⟩
theorem St.only (S:St w0 As w Ls)(s:SZ Ls Bs Rs):St w0 As w Bs:=⟨S.NT,S.tr.only s⟩
theorem St.perm (S:St w0 As w Ls)(p:Ls.Perm Bs):St w0 As w Bs:=⟨S.NT,Tr.perm S.tr (List.Perm.refl _) (gh p)⟩
theorem St.Ys (S:St w0 As w Ls):St w0 As w ([] :: Ls):=⟨S.NT,by have h:=S.tr;unfold mR at *;simpa using h⟩
theorem St.alloc (S:St w0 As w Ls)(o:Obj):St w0 As (w.alloc o) ([(w.heap.size,o)] :: Ls) :=
 ⟨S.NT,Tr.trans S.tr (by simpa using uV w o Ls.flatten)⟩
theorem St.block {b:Nat}{o o':Obj}{F:World}(S:St w0 As w Ls)(hp:Ls.Perm ([(b,o)] :: Rs))
  (ho:F.os=w.os) (ht:F.tape=w.tape) (hu:F.output=w.output) (hs:F.heap.size=w.heap.size)
  (hb:w.heap[b]? = some o->F.heap[b]? = some o') (hk:∀k,k≠b->F.heap[k]? = w.heap[k]?):St w0 As F ([(b,o')] :: Rs) :=
 ⟨S.NT,Tr.trans (Tr.perm S.tr (List.Perm.refl _) (gh hp)) (by simpa using uW ho ht hu hs hb hk Rs.flatten)⟩
end
def mH (Ls:List Chunk)(w:World):Prop:=∀C∈Ls,∀x∈C,w.heap[x.1]? = some x.2
theorem Hp.kE {w:World}{Ls:List Chunk}(h:Hp w Ls):mH Ls w:=fun C hC x hx=>h.2 x (mem_flatten.2 ⟨C,hC,hx⟩)
theorem St.kE {w0 w:World}{As Ls:List Chunk}(S:St w0 As w Ls):mH Ls w:=S.hp.kE
theorem mH.at {Ls:List Chunk}{w:World}{C:Chunk}(h:mH Ls w)(hC:C∈Ls):∀x∈C,w.heap[x.1]? = some x.2:=h C hC
theorem mH.one {Ls:List Chunk}{w:World}{b:Nat}{o:Obj}(h:mH Ls w)(hC:[(b,o)]∈Ls):w.heap[b]? = some o:=h _ hC (b,o) (mem_singleton.2 rfl)
theorem mH.sub {Ls Ms:List Chunk}{w:World}(h:mH Ls w)(hs:∀C∈Ms,C∈Ls):mH Ms w:=fun C hC=>h C (hs C hC)
def lk:List (Nat×Value)->Nat->Option Value
 | [],_=>none
 | (i,v) :: r,k=>bif Nat.beq i k then some v else lk r k
structure Fr (a:Act)(n:Nat)(e:List (Nat×Value))(ds:List Deferred:=[]):Prop where
 size:a.tmps.size=n
 Kn:a.defers=ds
 get:∀k v,lk e k=some v->a.tmps[k]? = some v
def ev (e:List (Nat×Value)):Operand->Option Value
 | .tmp t=>lk e t
 | .const v=>some v
 | .global g=>some (.pointer (some ⟨g,0,none⟩))
 | .func f=>some (.func (.func f) #[] #[])
section
variable {a:Act}{n:Nat}{e:List (Nat×Value)}{ds:List Deferred}
theorem Fr.eval (E:Fr a n e ds){x:Operand}{v:Value}(h:ev e x=some v):a.eval x=v:=by
 cases x with
 | tmp t=>have:=E.get t v h;simp [Act.eval,Array.getD_eq_getD_getElem?,this]
 | const u=>simpa [ev,Act.eval] using h
 | global g=>simpa [ev,Act.eval] using h
 | func f=>simpa [ev,Act.eval] using h
theorem Fr.put (E:Fr a n e ds){d:Nat}(hd:d<n)(v:Value):Fr (a.put (some d) v) n ((d,v) :: e) ds:=by
 refine ⟨by simp [Act.put,E.size],by simpa [Act.put] using E.Kn,fun k u h => ?_⟩
 simp only [lk] at h
 cases hb:Nat.beq d k with
 | true =>
  have hk:d=k:=Nat.eq_of_beq_eq_true hb
  subst hk
  simp only [hb,cond_true] at h
  cases h
  simp [Act.put,E.size,hd]
 | false =>
  have hk:d≠k:=fun h'=>by subst h';simp at hb
  simp only [hb,cond_false] at h
  simp [Act.put,hk,E.get k u h]
theorem Fr.CH (E:Fr a n e ds)(v:Value):Fr (a.put none v) n e ds:=E
theorem Fr.dr (E:Fr a n e ds){e':List (Nat×Value)}(h:∀x∈e',lk e x.1=some x.2):Fr a n e' ds:=by
 refine ⟨E.size,E.Kn, ?_⟩
 intro k v hk
 have:(k,v)∈e':=by
  clear h
  induction e' with
  | nil=>simp [lk] at hk
  | cons x r ih =>
   obtain ⟨i,u⟩:=x
   simp only [lk] at hk
   cases hb:Nat.beq i k with
   | true =>
    simp only [hb,cond_true] at hk
    cases hk
    rw [Nat.eq_of_beq_eq_true hb]
    exact mem_cons_self ..
   | false =>
    simp only [hb,cond_false] at hk
    exact mem_cons_of_mem _ (ih hk)
 exact E.get k v (h (k,v) this)
theorem mZ {e:List (Nat×Value)}:∀x∈([]:List (Nat×Value)),lk e x.1=some x.2:=fun _ h=>by cases h
theorem bT {e r:List (Nat×Value)}{k:Nat}{v:Value}(h:lk e k=some v)(hr:∀x∈r,lk e x.1=some x.2):∀x∈(k,v) :: r,lk e x.1=some x.2:=by
 intro x hx
 rcases List.mem_cons.1 hx with rfl | hx
 ·exact h
 ·exact hr x hx
end
section
variable {P:Program}{f:FuncId}{fn:Func}{c:Code}{w:World}{R:Ending->World->Prop}
theorem uX (n:Nat)(args:Array Value)(e:List (Nat×Value))(hn:args.size<=n)(he:∀k v,lk e k=some v->args[k]? = some v) :
  Fr { tmps:=args++Array.replicate (n - args.size) undef,defers:=[] } n e :=
 ⟨by simp;omega,rfl,fun k v h=>by
  have h1:=he k v h
  have:k<args.size:=(Array.getElem?_eq_some_iff.1 h1).1
  simp only [Array.getElem?_append,this,if_true]
  exact h1⟩
theorem yP (n:Nat)(args:Array Value)(e:List (Nat×Value))(hf:P.funcs[f]? = some fn)(hb:fn.body=some c)(hn:fn.ntmps=n)(hs:args.size<=n)
  (he:∀k v,lk e k=some v->args[k]? = some v) (h:∀a,Fr a n e->c.wp P (bodyPost P fn R) a w):Calls P f args w R :=
 calls_of_wp hf hb (by subst hn;exact h _ (uX _ args e hs he))
theorem Tx (e:List (Nat×Value))(args:Array Value)(h:∀x∈e,args[x.1]? = some x.2):∀k v,lk e k=some v->args[k]? = some v:=by
 intro k v hk
 induction e with
 | nil=>simp [lk] at hk
 | cons x r ih =>
  obtain ⟨i,u⟩:=x
  simp only [lk] at hk
  cases hb:Nat.beq i k with
  | true =>
   simp only [hb,cond_true] at hk
   cases hk
   rw [<-Nat.eq_of_beq_eq_true hb]
   exact h (i,_) (mem_cons_self ..)
  | false =>
   simp only [hb,cond_false] at hk
   exact ih (fun y hy=>h y (mem_cons_of_mem _ hy)) hk
variable {a:Act}{n:Nat}{e:List (Nat×Value)}{ds:List Deferred}
theorem abo (E:Fr a n e)(hr:fn.results=#[])(h:R (.returned (.tuple #[])) w):bodyPost P fn R .ret a w :=
 ⟨E.Kn,_,results_none hr _ _ _,h⟩
theorem abp (E:Fr a n e)(hr:fn.results=#[])(h:R (.returned (.tuple #[])) w):bodyPost P fn R .normal a w :=
 ⟨E.Kn,_,results_none hr _ _ _,h⟩
end
section
variable {P:Program}{Q:Exit->Act->World->Prop}{a:Act}{w:World}{K:Act->World->Prop}{n:Nat}{e:List (Nat×Value)}{ds:List Deferred}
theorem na (h:K a w):Exit.then K Q .normal a w:=h
theorem eO {Y:Act->World->Prop}(hK:∀a w,Y a w->K a w)(h:Y a w):Exit.then K Q .normal a w:=hK _ _ h
theorem uY (h:Q .ret a w):Exit.then K Q .ret a w:=h
theorem nT {i:Nat}(h:Q (.exit i) a w):Exit.then K Q (.exit i) a w:=h
theorem r5 {i:Nat}(h:Q .normal a w):Exit.inBlock i Q .normal a w:=h
theorem zO {i:Nat}(h:Q .ret a w):Exit.inBlock i Q .ret a w:=h
theorem zP {i:Nat}(h:Q .normal a w):Exit.inBlock i Q (.exit i) a w:=by simpa [Exit.inBlock] using h
theorem Gt {i j:Nat}(ey:(j==i)=false)(h:Q (.exit j) a w):Exit.inBlock i Q (.exit j) a w:=by
 have:j≠i:=by simpa using ey
 simpa [Exit.inBlock,this] using h
end
def ab (P:Program)(o:Oper)(a:Act)(w:World)(v:Value)(w':World):Prop:=(execOp a.eval o).run P w = .ok (.value v) w'
section
variable {P:Program}{ops:Array Oper}{Q:Exit->Act->World->Prop}{a:Act}{w w':World}{rest:List Oper}{o:Oper}{n d:Nat}{e:List (Nat×Value)}{ds:List Deferred}{v:Value}
theorem ab.wp (h:ab P o a w v w'){K:Act->World->Prop}(k:K (a.put o.dst v) w'):o.wp P a w K Q:=by
 unfold Oper.wp
 rw [h]
 exact k
theorem uh (hg:o.guard=none)(h:o.wp P a w (wpList P ops Q rest) Q):wpList P ops Q (o :: rest) a w:=by
 unfold wpList
 rw [if_pos (by simp [Region.wanted,hg])]
 exact .inl h
theorem aS (E:Fr a n e ds)(hg:o.guard=none)(hd:o.dst=some d)(hn:d<n)(hr:ab P o a w v w)
  (k:∀a',Fr a' n ((d,v) :: e) ds->wpList P ops Q rest a' w):wpList P ops Q (o :: rest) a w :=
 uh hg (hr.wp (by rw [hd];exact k _ (E.put hn v)))
def jg (P:Program)(o:Oper)(a:Act)(w w':World):Prop:=(execOp a.eval o).run P w = .ok .skip w'
theorem kT (E:Fr a n e ds){j t:Nat}{want b:Bool}{oj:Oper}(hg:o.guard=some (j,want))(hj:ops[j]? = some oj)(ht:oj.dst=some t)(hb:lk e t=some (.bool b)) :
  Region.wanted o (yielded ops a.tmps)=(b==want):=by
 have h1:=E.get t _ hb
 simp only [Region.wanted,hg,yielded,hj,Option.bind_some,ht]
 simp [h1]
theorem zQ (E:Fr a n e ds){j t:Nat}{want:Bool}{oj:Oper}(hg:o.guard=some (j,want))(hj:ops[j]? = some oj)(ht:oj.dst=some t)(hb:lk e t=some undef) :
  Region.wanted o (yielded ops a.tmps)=false:=by
 have h1:=E.get t _ hb
 simp only [Region.wanted,hg,yielded,hj,Option.bind_some,ht]
 simp [h1,undef]
end
def ahead (ops:Array Oper):Nat->Nat->Nat->Bool
 | 0,_,_=>false
 | fuel+1,i,j=>match ops[j]? with
  | none=>false
  | some o=>o.after.any fun e=>Region.binds .any e&&(e.on==i||ahead ops fuel i e.on)
def Closed (ops:Array Oper)(listed:Array Bool):Prop:=∀j o,ops[j]? = some o->listed.getD j false=true->∀e∈o.after,Region.binds .any e=true->listed.getD e.on false=true
theorem Closed.ahead {ops:Array Oper}{listed:Array Bool}(h:Closed ops listed){i:Nat}(hi:listed.getD i false=false):∀(fuel j:Nat),ahead ops fuel i j=true->listed.getD j false=false
 | 0,_,ha=>by simp [Sl.ahead] at ha
 | fuel+1,j,ha=>by
  unfold Sl.ahead at ha
  split at ha
  ·cases ha
  ·rename_i o ho
   rw [Array.any_eq_true'] at ha
   obtain ⟨e,he,hb⟩:=ha
   simp only [Bool.and_eq_true,Bool.or_eq_true,beq_iff_eq] at hb
   cases hj:listed.getD j false with
   | false=>rfl
   | true =>
    have h1:=h j o ho hj e he hb.1
    rcases hb.2 with h2 | h2
    ·rw [h2,hi] at h1;cases h1
    ·rw [h.ahead hi fuel e.on h2] at h1;cases h1
theorem Closed.set {ops:Array Oper}{listed:Array Bool}(h:Closed ops listed){i:Nat}(hi:i∈Region.ready .any ops listed):Closed ops (listed.setIfInBounds i true):=by
 intro j o ho hj e he hb
 obtain ⟨_,oi,hoi,hall⟩:=mem_ready.1 hi
 by_cases F9:i=j
 ·subst F9
  rw [ho] at hoi;cases hoi
  exact getD_set_true (hall e he hb)
 ·rw [getD_set_ne false F9] at hj
  exact getD_set_true (h j o ho hj e he hb)
section
variable {P:Program}{ops:Array Oper}{Q:Exit->Act->World->Prop}{S:World->Prop}{js:Nat}
def SS (S:World->Prop)(js:Nat)(listed:Array Bool)(w:World):Prop:=listed.getD js false=true\/S w
def uZ (P:Program)(ops:Array Oper)(Q:Exit->Act->World->Prop)(S:World->Prop)(js:Nat):Nat->Array Bool->Act->World->Prop
 | 0,listed,a,w=>Region.ready .any ops listed=[]/\Q .normal a w
 | fuel+1,listed,a,w=>(Region.ready .any ops listed=[]->Q .normal a w) /\
  ∀i∈Region.ready .any ops listed,wpOp P ops Q i (fun a' w'=>SS S js (listed.setIfInBounds i true) w'/\uZ P ops Q S js fuel (listed.setIfInBounds i true) a' w') a w
theorem u1:∀(fuel:Nat) (listed:Array Bool) (a:Act) (w:World),uZ P ops Q S js fuel listed a w->wpAny P .any ops Q fuel listed a w
 | 0,_,_,_,h=>h
 | fuel+1,_,_,_,h=>⟨h.1,fun i hi=>wpOp_mono (fun _ _ h'=>u1 fuel _ _ _ h'.2) (h.2 i hi)⟩
def NU (S:World->Prop)(b:Bool)(w:World):Prop:=b=true->S w
theorem kh {listed:Array Bool}{i:Nat}(h:i∈Region.ready .any ops listed):listed.getD i false=false:=by
 have h0:=(mem_ready.1 h).1
 rcases Nat.lt_or_ge i listed.size with h' | h'
 ·simpa [h'] using h0
 ·simp [Array.getD,Nat.not_lt.2 h']
theorem jn {i:Nat}{oi:Oper}{v:Value}{b:Bool}{fz:Nat}(hi:ops[i]? = some oi)(Ty:∀(j:Nat) (o:Oper) cs c,ops[j]? = some o->o.op ≠ .select cs c)
  (hQ:∀c a w,Q (.panic c) (a.put oi.dst v) w->Q (.panic c) a w) (hb:b=true->ahead ops fz i js=true\/js=ops.size) (F9:js≠i) :
  ∀(fuel:Nat) (listed:Array Bool) (a:Act) (w:World),listed.size=ops.size->Closed ops listed ->
   (∀j oj,ops[j]? = some oj->j≠i->listed.getD j true=false->(∀e∈oj.after,Region.binds .any e=true->e.on≠i)->oi.apart ops oj=true) ->
   i∈Region.ready .any ops listed->YieldsIf P ops (NU S b) oi v a->SS S js listed w ->
   uZ P ops Q S js fuel (listed.setIfInBounds i true) (a.put oi.dst v) w->uZ P ops Q S js (fuel+1) listed a w:=by
 have counts:∀ {listed:Array Bool} {w:World},listed.size=ops.size->Closed ops listed->i∈Region.ready .any ops listed->SS S js listed w->NU S b w:=by
  intro listed w hz hc hr hS hbt
  rcases hS with h | h
  ·rcases hb hbt with hb | hb
   ·rw [hc.ahead (kh hr) fz js hb] at h;cases h
   ·simp [Array.getD,hb,hz] at h
  ·exact h
 intro fuel
 induction fuel with
 | zero =>
  intro listed a w hz hc _ hr hy hS H
  refine ⟨fun h=>(by rw [h] at hr;cases hr),fun j hj => ?_⟩
  by_cases ui:j=i
  ·subst ui
   refine hy.wpOp hi (counts hz hc hr hS) ⟨?_,H⟩
   rcases hS with h | h
   ·exact .inl (getD_set_true h)
   ·exact .inr h
  ·have:=ready_mono hj ui
   rw [H.1] at this
   cases this
 | succ fuel ih =>
  intro listed a w hz hc Xc hr hy hS H
  refine ⟨fun h=>(by rw [h] at hr;cases hr),fun j hj => ?_⟩
  by_cases ui:j=i
  ·subst ui
   refine hy.wpOp hi (counts hz hc hr hS) ⟨?_,H⟩
   rcases hS with h | h
   ·exact .inl (getD_set_true h)
   ·exact .inr h
  ·have h1:=H.2 j (ready_mono hj ui)
   obtain ⟨abq,oj,hoj,hall⟩:=mem_ready.1 hj
   have aeg:∀e∈oj.after,Region.binds .any e=true->e.on≠i:=fun e he Nl heq=>by
    have h1:=hall e he Nl
    rw [heq,kh hr] at h1
    cases h1
   have h2:=wpOp_putIf hoj (Xc j oj hoj ui abq aeg) (fun cs c=>Ty i oi cs c hi) (fun cs c=>Ty j oj cs c hoj) hQ hy h1
   have Yt:∀k ok,ops[k]? = some ok->k≠i->(listed.setIfInBounds j true).getD k true=false ->
     (∀e∈ok.after,Region.binds .any e=true->e.on≠i)->oi.apart ops ok=true:=fun k ok hk hki zR gf=>by
    refine Xc k ok hk hki ?_ gf
    by_cases hjk:j=k
    ·subst hjk;exact abq
    ·rw [getD_set_ne true hjk] at zR;exact zR
   have hr':=ready_mono hr (Ne.symm ui)
   refine wpOp_mono (fun a' w' h3 => ?_) h2
   have uj:SS S js (listed.setIfInBounds j true) w':=by
    rcases h3.2.1 with h | h
    ·refine .inl ?_
     rw [Array.setIfInBounds_comm _ _ (Ne.symm ui),getD_set_ne false (Ne.symm F9)] at h
     exact h
    ·exact .inr h
   refine ⟨uj,ih (listed.setIfInBounds j true) a' w' (by simpa using hz) (hc.set hj) Yt hr' h3.1 uj ?_⟩
   rw [Array.setIfInBounds_comm _ _ ui]
   exact h3.2.2
end
inductive aB where
 | nil
 | cons (x:Nat×Nat) (r:aB)
 | fork (i:Nat) (r:aB) (j:Nat) (q:aB)
 | yQ (i:Nat) (r:aB) (j:Nat) (q:aB) (l:Nat) (s:aB)
def aB.yh:List (Nat×Nat)->aB
 | []=>.nil
 | x :: r=>.cons x (yh r)
def aB.len:aB->Nat
 | .nil=>0
 | .cons _ r=>r.len+1
 | .fork _ r _ _=>r.len+1
 | .yQ _ r _ _ _ _=>r.len+1
def lP (ops:Array Oper)(js:Nat):aB->Array Bool->Bool
 | .nil,listed=>(Region.ready .any ops listed).isEmpty
 | .cons (i,0) r,listed=>(Region.ready .any ops listed).contains i&&Region.free .any ops listed i&&js != i&&(ahead ops ops.size i js||js==ops.size)&&lP ops js r (listed.setIfInBounds i true)
 | .cons (i,2) r,listed=>(Region.ready .any ops listed).contains i&&Region.free .any ops listed i&&js != i&&lP ops js r (listed.setIfInBounds i true)
 | .cons (i,1) r,listed=>(Region.ready .any ops listed==[i])&&js != i&&lP ops js r (listed.setIfInBounds i true)
 | .cons (i,3) r,listed=>(Region.ready .any ops listed==[i])&&(js==i||listed.getD js false)&&lP ops js r (listed.setIfInBounds i true)
 | .fork i r j q,listed=>(Region.ready .any ops listed==[i,j])&&js != i&&js != j&&r.len==q.len&&lP ops js r (listed.setIfInBounds i true)&&lP ops js q (listed.setIfInBounds j true)
 | .yQ i r j q l t,listed=>(Region.ready .any ops listed==[i,j,l])&&js != i&&js != j&&js != l&&r.len==q.len&&r.len==t.len&&lP ops js r (listed.setIfInBounds i true)&&lP ops js q (listed.setIfInBounds j true)&&lP ops js t (listed.setIfInBounds l true)
 | .cons _ _,_=>false
def qi (n:Nat):aB->Nat
 | .nil=>n
 | .cons (i,3) _=>i
 | .cons _ r=>qi n r
 | .fork _ r _ _=>qi n r
 | .yQ _ r _ _ _ _=>qi n r
def lQ (ops:Array Oper)(ord:aB):Bool:=Region.noSelect ops&&(ord.len==ops.size)&&lP ops (qi ops.size ord) ord (Array.replicate ops.size false)
def eP (P:Program)(ops:Array Oper)(S:World->Prop)(Q:Exit->Act->World->Prop):aB->Act->World->Prop
  | .nil,a,w=>Q .normal a w
  | .cons (i,0) r,a,w=>∃o,ops[i]? = some o /\
      ((Region.wanted o (yielded ops a.tmps)=true/\∃v,(∀w',S w'->ab P o a w' v w')/\eP P ops S Q r (a.put o.dst v) w) \/
       (Region.wanted o (yielded ops a.tmps)=false/\eP P ops S Q r (a.put o.dst undef) w))
  | .cons (i,2) r,a,w=>∃o,ops[i]? = some o /\
      ((Region.wanted o (yielded ops a.tmps)=true/\∃v,(∀w',ab P o a w' v w')/\eP P ops S Q r (a.put o.dst v) w) \/
       (Region.wanted o (yielded ops a.tmps)=false/\eP P ops S Q r (a.put o.dst undef) w))
  | .cons (i,1) r,a,w=>∃o,ops[i]? = some o /\
      ((Region.wanted o (yielded ops a.tmps)=true/\o.wp P a w (fun a' w'=>S w'/\eP P ops S Q r a' w') Q) \/
       (Region.wanted o (yielded ops a.tmps)=false/\S w/\eP P ops S Q r (a.put o.dst undef) w))
  | .cons (i,3) r,a,w=>∃o,ops[i]? = some o /\
      ((Region.wanted o (yielded ops a.tmps)=true/\o.wp P a w (fun a' w'=>eP P ops S Q r a' w') Q) \/
       (Region.wanted o (yielded ops a.tmps)=false/\eP P ops S Q r (a.put o.dst undef) w))
  | .fork i r j q,a,w=>(∃o,ops[i]? = some o /\
      ((Region.wanted o (yielded ops a.tmps)=true/\o.wp P a w (fun a' w'=>S w'/\eP P ops S Q r a' w') Q) \/
       (Region.wanted o (yielded ops a.tmps)=false/\S w/\eP P ops S Q r (a.put o.dst undef) w))) /\
      (∃o,ops[j]? = some o /\
      ((Region.wanted o (yielded ops a.tmps)=true/\o.wp P a w (fun a' w'=>S w'/\eP P ops S Q q a' w') Q) \/
       (Region.wanted o (yielded ops a.tmps)=false/\S w/\eP P ops S Q q (a.put o.dst undef) w)))
  | .yQ i r j q l t,a,w=>(∃o,ops[i]? = some o /\
      ((Region.wanted o (yielded ops a.tmps)=true/\o.wp P a w (fun a' w'=>S w'/\eP P ops S Q r a' w') Q) \/
       (Region.wanted o (yielded ops a.tmps)=false/\S w/\eP P ops S Q r (a.put o.dst undef) w))) /\
      (∃o,ops[j]? = some o /\
      ((Region.wanted o (yielded ops a.tmps)=true/\o.wp P a w (fun a' w'=>S w'/\eP P ops S Q q a' w') Q) \/
       (Region.wanted o (yielded ops a.tmps)=false/\S w/\eP P ops S Q q (a.put o.dst undef) w))) /\
      (∃o,ops[l]? = some o /\
      ((Region.wanted o (yielded ops a.tmps)=true/\o.wp P a w (fun a' w'=>S w'/\eP P ops S Q t a' w') Q) \/
       (Region.wanted o (yielded ops a.tmps)=false/\S w/\eP P ops S Q t (a.put o.dst undef) w)))
  | .cons _ _,_,_=>False
def dA (Q:Exit->Act->World->Prop):Exit->Act->World->Prop
 | .normal,a,w=>Q .normal a w
 | _,_,_=>False
theorem dt {P:Program}{ops:Array Oper}{S:World->Prop}{Q:Exit->Act->World->Prop}{js:Nat}(hs:Region.noSelect ops=true) :
  ∀(ord:aB) (listed:Array Bool) (a:Act) (w:World),lP ops js ord listed=true->listed.size=ops.size->Closed ops listed->SS S js listed w->eP P ops S (dA Q) ord a w ->
   uZ P ops (dA Q) S js ord.len listed a w
 | .nil,listed,a,w,hB,_,_,_,h=>by
  have:Region.ready .any ops listed=[]:=by simpa [lP] using hB
  exact ⟨this,h⟩
 | .cons (i,0) r,listed,a,w,hB,hz,hc,hS,h=>by
  simp only [lP,Bool.and_eq_true,Bool.or_eq_true,beq_iff_eq,bne_iff_ne] at hB
  obtain ⟨⟨⟨⟨h1,h2⟩,ui⟩,hah⟩,h3⟩:=hB
  have hr:i∈Region.ready .any ops listed:=by simpa using h1
  obtain ⟨o,ho,hw⟩:=h
  have hS2:SS S js (listed.setIfInBounds i true) w:=hS.imp (fun h=>getD_set_true h) id
  rcases hw with ⟨hw,v,hv,hk⟩ | ⟨hw,hk⟩
  ·exact jn (b:=true) (fz:=ops.size) ho (Region.noSelect_spec hs) (fun c a w h=>h) (fun _=>hah) ui _ listed a w hz hc (Region.free_spec ho h2) hr (.inl ⟨hw,fun w' hw'=>hv w' (hw' rfl)⟩) hS (dt hs r _ _ _ h3 (by simpa using hz) (hc.set hr) hS2 hk)
  ·exact jn (b:=true) (fz:=ops.size) ho (Region.noSelect_spec hs) (fun c a w h=>h) (fun _=>hah) ui _ listed a w hz hc (Region.free_spec ho h2) hr (.inr ⟨hw,rfl⟩) hS (dt hs r _ _ _ h3 (by simpa using hz) (hc.set hr) hS2 hk)
 | .cons (i,2) r,listed,a,w,hB,hz,hc,hS,h=>by
  simp only [lP,Bool.and_eq_true,bne_iff_ne] at hB
  obtain ⟨⟨⟨h1,h2⟩,ui⟩,h3⟩:=hB
  have hr:i∈Region.ready .any ops listed:=by simpa using h1
  obtain ⟨o,ho,hw⟩:=h
  have hS2:SS S js (listed.setIfInBounds i true) w:=hS.imp (fun h=>getD_set_true h) id
  rcases hw with ⟨hw,v,hv,hk⟩ | ⟨hw,hk⟩
  ·exact jn (b:=false) (fz:=0) ho (Region.noSelect_spec hs) (fun c a w h=>h) (fun h=>by cases h) ui _ listed a w hz hc (Region.free_spec ho h2) hr (.inl ⟨hw,fun w' _=>hv w'⟩) hS (dt hs r _ _ _ h3 (by simpa using hz) (hc.set hr) hS2 hk)
  ·exact jn (b:=false) (fz:=0) ho (Region.noSelect_spec hs) (fun c a w h=>h) (fun h=>by cases h) ui _ listed a w hz hc (Region.free_spec ho h2) hr (.inr ⟨hw,rfl⟩) hS (dt hs r _ _ _ h3 (by simpa using hz) (hc.set hr) hS2 hk)
 | .cons (i,1) r,listed,a,w,hB,hz,hc,hS,h=>by
  simp only [lP,Bool.and_eq_true,beq_iff_eq,bne_iff_ne] at hB
  obtain ⟨⟨h1,ui⟩,h3⟩:=hB
  have hr:i∈Region.ready .any ops listed:=by rw [h1];simp
  obtain ⟨o,ho,hw⟩:=h
  refine ⟨fun h0=>by rw [h0] at hr;(cases hr),fun j hj => ?_⟩
  rw [h1] at hj
  have Yu:j=i:=by simpa using hj
  subst Yu
  unfold wpOp
  simp only [ho]
  rcases hw with ⟨hw,hk⟩ | ⟨hw,uj,hk⟩
  ·rw [if_pos hw]
   exact .inl (Oper.wp_mono (fun a' w' h'=>⟨.inr h'.1,dt hs r _ _ _ h3 (by simpa using hz) (hc.set hr) (.inr h'.1) h'.2⟩) hk)
  ·rw [if_neg (by rw [hw];decide)]
   exact ⟨.inr uj,dt hs r _ _ _ h3 (by simpa using hz) (hc.set hr) (.inr uj) hk⟩
 | .cons (i,3) r,listed,a,w,hB,hz,hc,hS,h=>by
  simp only [lP,Bool.and_eq_true,Bool.or_eq_true,beq_iff_eq] at hB
  obtain ⟨⟨h1,ui⟩,h3⟩:=hB
  have hr:i∈Region.ready .any ops listed:=by rw [h1];simp
  obtain ⟨o,ho,hw⟩:=h
  have br:i<ops.size:=(Array.getElem?_eq_some_iff.1 ho).1
  have oX:(listed.setIfInBounds i true).getD js false=true:=by
   rcases ui with ui | ui
   ·rw [ui];simp [Array.getD,hz,br]
   ·exact getD_set_true ui
  refine ⟨fun h0=>by rw [h0] at hr;(cases hr),fun j hj => ?_⟩
  rw [h1] at hj
  have Yu:j=i:=by simpa using hj
  subst Yu
  unfold wpOp
  simp only [ho]
  rcases hw with ⟨hw,hk⟩ | ⟨hw,hk⟩
  ·rw [if_pos hw]
   exact .inl (Oper.wp_mono (fun a' w' h'=>⟨.inl oX,dt hs r _ _ _ h3 (by simpa using hz) (hc.set hr) (.inl oX) h'⟩) hk)
  ·rw [if_neg (by rw [hw];decide)]
   exact ⟨.inl oX,dt hs r _ _ _ h3 (by simpa using hz) (hc.set hr) (.inl oX) hk⟩
 | .fork i r j q,listed,a,w,hB,hz,hc,hS,h=>by
  simp only [lP,Bool.and_eq_true,beq_iff_eq,bne_iff_ne] at hB
  obtain ⟨⟨⟨⟨⟨h1,ui⟩,hjj⟩,hlen⟩,h3⟩,h4⟩:=hB
  have Tz:i∈Region.ready .any ops listed:=by rw [h1];simp
  have Nn:j∈Region.ready .any ops listed:=by rw [h1];simp
  obtain ⟨⟨o,ho,hw⟩,o2,xS,NV⟩:=h
  refine ⟨fun h0=>by rw [h0] at Tz;(cases Tz),fun k hk => ?_⟩
  rw [h1] at hk
  simp only [List.mem_cons,not_mem_nil,or_false] at hk
  rcases hk with rfl | rfl
  ·unfold wpOp
   simp only [ho]
   rcases hw with ⟨hw,hk⟩ | ⟨hw,uj,hk⟩
   ·rw [if_pos hw]
    exact .inl (Oper.wp_mono (fun a' w' h'=>⟨.inr h'.1,dt hs r _ _ _ h3 (by simpa using hz) (hc.set Tz) (.inr h'.1) h'.2⟩) hk)
   ·rw [if_neg (by rw [hw];decide)]
    exact ⟨.inr uj,dt hs r _ _ _ h3 (by simpa using hz) (hc.set Tz) (.inr uj) hk⟩
  ·unfold wpOp
   simp only [xS,aB.len]
   rw [hlen]
   rcases NV with ⟨hw,hk⟩ | ⟨hw,uj,hk⟩
   ·rw [if_pos hw]
    exact .inl (Oper.wp_mono (fun a' w' h'=>⟨.inr h'.1,dt hs q _ _ _ h4 (by simpa using hz) (hc.set Nn) (.inr h'.1) h'.2⟩) hk)
   ·rw [if_neg (by rw [hw];decide)]
    exact ⟨.inr uj,dt hs q _ _ _ h4 (by simpa using hz) (hc.set Nn) (.inr uj) hk⟩
 | .yQ i r j q l t,listed,a,w,hB,hz,hc,hS,h=>by
  simp only [lP,Bool.and_eq_true,beq_iff_eq,bne_iff_ne] at hB
  obtain ⟨⟨⟨⟨⟨⟨⟨⟨h1,ui⟩,hjj⟩,pC⟩,hlen⟩,iK⟩,h3⟩,h4⟩,h5⟩:=hB
  have Tz:i∈Region.ready .any ops listed:=by rw [h1];simp
  have Nn:j∈Region.ready .any ops listed:=by rw [h1];simp
  have hrl:l∈Region.ready .any ops listed:=by rw [h1];simp
  obtain ⟨⟨o,ho,hw⟩,⟨o2,xS,NV⟩,o3,ho3,hw3⟩:=h
  refine ⟨fun h0=>by rw [h0] at Tz;(cases Tz),fun k hk => ?_⟩
  rw [h1] at hk
  simp only [List.mem_cons,not_mem_nil,or_false] at hk
  rcases hk with rfl | rfl | rfl
  ·unfold wpOp
   simp only [ho]
   rcases hw with ⟨hw,hk⟩ | ⟨hw,uj,hk⟩
   ·rw [if_pos hw]
    exact .inl (Oper.wp_mono (fun a' w' h'=>⟨.inr h'.1,dt hs r _ _ _ h3 (by simpa using hz) (hc.set Tz) (.inr h'.1) h'.2⟩) hk)
   ·rw [if_neg (by rw [hw];decide)]
    exact ⟨.inr uj,dt hs r _ _ _ h3 (by simpa using hz) (hc.set Tz) (.inr uj) hk⟩
  ·unfold wpOp
   simp only [xS,aB.len]
   rw [hlen]
   rcases NV with ⟨hw,hk⟩ | ⟨hw,uj,hk⟩
   ·rw [if_pos hw]
    exact .inl (Oper.wp_mono (fun a' w' h'=>⟨.inr h'.1,dt hs q _ _ _ h4 (by simpa using hz) (hc.set Nn) (.inr h'.1) h'.2⟩) hk)
   ·rw [if_neg (by rw [hw];decide)]
    exact ⟨.inr uj,dt hs q _ _ _ h4 (by simpa using hz) (hc.set Nn) (.inr uj) hk⟩
  ·unfold wpOp
   simp only [ho3,aB.len]
   rw [iK]
   rcases hw3 with ⟨hw,hk⟩ | ⟨hw,uj,hk⟩
   ·rw [if_pos hw]
    exact .inl (Oper.wp_mono (fun a' w' h'=>⟨.inr h'.1,dt hs t _ _ _ h5 (by simpa using hz) (hc.set hrl) (.inr h'.1) h'.2⟩) hk)
   ·rw [if_neg (by rw [hw];decide)]
    exact ⟨.inr uj,dt hs t _ _ _ h5 (by simpa using hz) (hc.set hrl) (.inr uj) hk⟩
 | .cons (i,k+4) r,listed,a,w,hB,_,_,_,_=>by simp [lP] at hB
section
variable {P:Program}{ops:Array Oper}{Q:Exit->Act->World->Prop}{a:Act}{w w':World}{o:Oper}{n d i:Nat}{e:List (Nat×Value)}{ds:List Deferred}{v:Value}{Ms:List Chunk}{r:aB}
end
section
variable {P:Program}{Q:Exit->Act->World->Prop}{a:Act}{w:World}{o:Oper}{n:Nat}{e:List (Nat×Value)}{ds:List Deferred}{K:Act->World->Prop}
def IL (e:List (Nat×Value)):List Operand->Option (List Value)
 | []=>some []
 | x :: r=>match ev e x,IL e r with
  | some v,some vs=>some (v :: vs)
  | _,_=>none
theorem Fr.td (E:Fr a n e ds):∀ {xs:List Operand} {vs:List Value},IL e xs=some vs->xs.map a.eval=vs
 | [],vs,h=>by simp only [IL,Option.some.injEq] at h;subst h;rfl
 | x :: r,vs,h=>by
  simp only [IL] at h
  split at h
  ·rename_i v us h1 h2
   cases h
   rw [map_cons,E.eval h1,E.td h2]
  ·cases h
theorem jo {f:FuncId}{fn:Func}{args:Array Value}(hf:P.funcs[f]? = some fn)(hb:fn.body.isSome=true)(Xd:(fn.name == "runtime.NumGoroutine")=false) :
  (callFunc f args).run P w = .ok (.enter f args) w:=by
 have h1:¬fn.name = "runtime.NumGoroutine":=by simpa using Xd
 have h2:¬fn.body=none:=by intro h;rw [h] at hb;cases hb
 simp [callFunc,hf,h1,h2]
end
section
variable {P:Program}{a:Act}{w:World}{o:Oper}{n:Nat}{e:List (Nat×Value)}{ds:List Deferred}{x y z:Operand}{v u:Value}
theorem ek (E:Fr a n e ds)(ho:o.op = .move x)(hx:ev e x=some v):ab P o a w v w:=by simp [ab,execOp,ho,E.eval hx]
theorem jF (E:Fr a n e ds)(ho:o.op = .assign x)(hx:ev e x=some v):ab P o a w v w:=by simp [ab,execOp,ho,E.eval hx]
theorem tf (E:Fr a n e ds)(ho:o.op = .pick z x y)(hz:ev e z=some (.bool true))(hx:ev e x=some v):ab P o a w v w:=by simp [ab,execOp,ho,E.eval hx,E.eval hz,asBool]
theorem u3 (E:Fr a n e ds)(ho:o.op = .pick z x y)(hz:ev e z=some (.bool false))(hy:ev e y=some v):ab P o a w v w:=by simp [ab,execOp,ho,E.eval hy,E.eval hz,asBool]
theorem qj (E:Fr a n e ds){b:Bool}(ho:o.op = .pick z x y)(hz:ev e z=some (.bool b))(hb:b=true)(hx:ev e x=some v):ab P o a w v w:=by subst hb;exact tf E ho hz hx
theorem CI (E:Fr a n e ds){b:Bool}(ho:o.op = .pick z x y)(hz:ev e z=some (.bool b))(hb:b=false)(hy:ev e y=some v):ab P o a w v w:=by subst hb;exact u3 E ho hz hy
theorem NW (E:Fr a n e ds){t el:TypeId}{ad:Option Addr}{l c:Nat}(ho:o.op = .call { callee:=.builtin .len,args:=#[x],argTypes:=#[t] })(hx:ev e x=some (.slice ad l c))
  (ht:P.underlying t=some (.slice el)):ab P o a w (.int .i64 l) w:=by
 simp [ab,execOp,ho,resolve,invoke,builtin,E.eval hx,Builtin.len_,run_underlying ht,goInt]
theorem oY (E:Fr a n e ds){t:TypeId}{s:ByteArray}(ho:o.op = .call { callee:=.builtin .len,args:=#[x],argTypes:=#[t] })(hx:ev e x=some (.string s))
  (ht:P.underlying t=some .string):ab P o a w (.int .i64 s.size) w:=by
 simp [ab,execOp,ho,resolve,invoke,builtin,E.eval hx,Builtin.len_,run_underlying ht,goInt]
theorem Yv (E:Fr a n e ds){t el:TypeId}{ad:Option Addr}{l c:Nat}(ho:o.op = .call { callee:=.builtin .cap,args:=#[x],argTypes:=#[t] })(hx:ev e x=some (.slice ad l c))
  (ht:P.underlying t=some (.slice el)):ab P o a w (.int .i64 c) w:=by
 simp [ab,execOp,ho,resolve,invoke,builtin,E.eval hx,Builtin.cap_,run_underlying ht,goInt]
theorem Yw (E:Fr a n e ds){ts:Array TypeId}{k j:IntKind}{p q:Int}(ho:o.op = .call { callee:=.builtin .max,args:=#[x,y],argTypes:=ts })(hx:ev e x=some (.int k p))(hy:ev e y=some (.int j q)) :
  ab P o a w (.int k (max p q)) w:=by
 have h1:(if p<q then q else p)=max p q:=oZ
 simp [ab,execOp,ho,resolve,invoke,builtin,E.eval hx,E.eval hy,Builtin.max_,Builtin.max2,h1]
theorem Yx (E:Fr a n e ds){ts:Array TypeId}{k j:IntKind}{p q:Int}(ho:o.op = .call { callee:=.builtin .min,args:=#[x,y],argTypes:=ts })(hx:ev e x=some (.int k p))(hy:ev e y=some (.int j q)) :
  ab P o a w (.int k (min p q)) w:=by
 have h1:(if q<p then q else p)=min p q:=oZ
 simp [ab,execOp,ho,resolve,invoke,builtin,E.eval hx,E.eval hy,Builtin.min_,Builtin.min2,h1]
theorem cu (E:Fr a n e ds){op:BinOp}{t t':TypeId}{r:Value}(ho:o.op = .binOp op t x y t')(hx:ev e x=some v)(hy:ev e y=some u)(hg:eqGuard op t x y v u=pure ())
  (hr:(binOp op t v u).run P w = .ok r w):ab P o a w r w:=by
 simp [ab,execOp,ho,E.eval hx,E.eval hy,hg,hr]
section ints
variable {t t':TypeId}{k j:IntKind}{p q r:Int}
theorem Gu (E:Fr a n e ds)(ho:o.op = .binOp .add t x y t')(hx:ev e x=some (.int k p))(hy:ev e y=some (.int k q))(hr:k.wrap (p+q)=r):ab P o a w (.int k r) w :=
 cu E ho hx hy (by simp [go_sem]) (by subst hr;simp [go_sem])
theorem Yy (E:Fr a n e ds)(ho:o.op = .binOp .sub t x y t')(hx:ev e x=some (.int k p))(hy:ev e y=some (.int k q))(hr:k.wrap (p - q)=r):ab P o a w (.int k r) w :=
 cu E ho hx hy (by simp [go_sem]) (by subst hr;simp [go_sem])
theorem Yz (E:Fr a n e ds)(ho:o.op = .binOp .mul t x y t')(hx:ev e x=some (.int k p))(hy:ev e y=some (.int k q))(hr:k.wrap (p*q)=r):ab P o a w (.int k r) w :=
 cu E ho hx hy (by simp [go_sem]) (by subst hr;simp [go_sem])
theorem YA (E:Fr a n e ds)(ho:o.op = .binOp .quo t x y t')(hx:ev e x=some (.int k p))(hy:ev e y=some (.int k q))(h0:q≠0)(hr:k.wrap (p.tdiv q)=r):ab P o a w (.int k r) w :=
 cu E ho hx hy (by simp [go_sem]) (by subst hr;simp [go_sem,h0])
theorem YB (E:Fr a n e ds)(ho:o.op = .binOp .rem t x y t')(hx:ev e x=some (.int k p))(hy:ev e y=some (.int k q))(h0:q≠0)(hr:p.tmod q=r):ab P o a w (.int k r) w :=
 cu E ho hx hy (by simp [go_sem]) (by subst hr;simp [go_sem,h0])
theorem YC (E:Fr a n e ds)(ho:o.op = .binOp .and t x y t')(hx:ev e x=some (.int k p))(hy:ev e y=some (.int k q))(hr:bits .and k p q=r):ab P o a w (.int k r) w :=
 cu E ho hx hy (by simp [go_sem]) (by subst hr;simp [go_sem])
theorem abr (E:Fr a n e ds)(ho:o.op = .binOp .or t x y t')(hx:ev e x=some (.int k p))(hy:ev e y=some (.int k q))(hr:bits .or k p q=r):ab P o a w (.int k r) w :=
 cu E ho hx hy (by simp [go_sem]) (by subst hr;simp [go_sem])
theorem YD (E:Fr a n e ds)(ho:o.op = .binOp .xor t x y t')(hx:ev e x=some (.int k p))(hy:ev e y=some (.int k q))(hr:bits .xor k p q=r):ab P o a w (.int k r) w :=
 cu E ho hx hy (by simp [go_sem]) (by subst hr;simp [go_sem])
theorem YE (E:Fr a n e ds)(ho:o.op = .binOp .shr t x y t')(hx:ev e x=some (.int k p))(hy:ev e y=some (.int j q))(h0:0<=q)(h1:q<=k.bits)(hr:p / 2 ^ q.toNat=r):ab P o a w (.int k r) w :=
 cu E ho hx hy (by simp [go_sem]) (by subst hr;simp [binOp_shr,shift_shr k j p q h0 h1])
theorem YF (E:Fr a n e ds)(ho:o.op = .binOp .shl t x y t')(hx:ev e x=some (.int k p))(hy:ev e y=some (.int j q))(h0:0<=q)(h1:q<=k.bits)(hr:k.wrap (p*2 ^ q.toNat)=r):ab P o a w (.int k r) w :=
 cu E ho hx hy (by simp [go_sem]) (by subst hr;simp [binOp_shl,shift_shl k j p q h0 h1])
theorem YG (E:Fr a n e ds)(ho:o.op = .binOp .eql t x y t')(hx:ev e x=some (.int k p))(hy:ev e y=some (.int k q)):ab P o a w (.bool (p==q)) w :=
 cu E ho hx hy (by simp [go_sem]) (by simp [go_sem])
theorem Gv (E:Fr a n e ds)(ho:o.op = .binOp .neq t x y t')(hx:ev e x=some (.int k p))(hy:ev e y=some (.int k q)):ab P o a w (.bool (p != q)) w :=
 cu E ho hx hy (by simp [go_sem]) (by simp [go_sem])
theorem NX (E:Fr a n e ds)(ho:o.op = .binOp .lss t x y t')(hx:ev e x=some (.int k p))(hy:ev e y=some (.int k q)):ab P o a w (.bool (decide (p<q))) w :=
 cu E ho hx hy (by simp [go_sem]) (by simp [go_sem])
theorem YH (E:Fr a n e ds)(ho:o.op = .binOp .leq t x y t')(hx:ev e x=some (.int k p))(hy:ev e y=some (.int k q)):ab P o a w (.bool (decide (p<=q))) w :=
 cu E ho hx hy (by simp [go_sem]) (by simp [go_sem])
theorem YI (E:Fr a n e ds)(ho:o.op = .binOp .gtr t x y t')(hx:ev e x=some (.int k p))(hy:ev e y=some (.int k q)):ab P o a w (.bool (decide (q<p))) w :=
 cu E ho hx hy (by simp [go_sem]) (by simp [go_sem])
theorem YJ (E:Fr a n e ds)(ho:o.op = .binOp .geq t x y t')(hx:ev e x=some (.int k p))(hy:ev e y=some (.int k q)):ab P o a w (.bool (decide (q<=p))) w :=
 cu E ho hx hy (by simp [go_sem]) (by simp [go_sem])
theorem YK (E:Fr a n e ds)(ho:o.op = .unOp .neg t x)(hx:ev e x=some (.int k p))(hr:k.wrap (-p)=r):ab P o a w (.int k r) w:=by
 subst hr;simp [ab,execOp,ho,E.eval hx,Op.unary,Op.intArith]
theorem Gw (E:Fr a n e ds){dk:IntKind}{sd:TypeDesc}(ho:o.op = .convert t t' x)(hx:ev e x=some (.int k p))(hs:P.underlying t=some sd)(hd:P.underlying t'=some (.int dk))(hr:dk.wrap p=r):ab P o a w (.int dk r) w:=by
 subst hr;simp [ab,execOp,ho,E.eval hx,convert,run_underlying hs,run_underlying hd,Conv.intToInt]
end ints
theorem u4 (E:Fr a n e ds){t:TypeId}{b:Bool}(ho:o.op = .unOp .not t x)(hx:ev e x=some (.bool b)):ab P o a w (.bool !b) w:=by
 simp [ab,execOp,ho,E.eval hx,Op.unary]
abbrev str (bs:List UInt8):Value:=.string ⟨bs.toArray⟩
theorem zS {t:TypeId}(d:Nat)(b c:Bool)(ht:P.underlying t=some .bool):(Op.equalIn (d+1) t (.bool b) (.bool c)).run P w = .ok (b==c) w:=by
 simp [Op.equalIn,run_underlying ht]
theorem u5 {t:TypeId}(b c:Bool)(ht:P.underlying t=some .bool):(Op.equal t (.bool b) (.bool c)).run P w = .ok (b==c) w:=zS 9999 b c ht
theorem CJ (E:Fr a n e ds){t t':TypeId}{b c:Bool}(ho:o.op = .binOp .eql t x y t')(hx:ev e x=some (.bool b))(hy:ev e y=some (.bool c))(ht:P.underlying t=some .bool):ab P o a w (.bool (b==c)) w :=
 cu E ho hx hy (by simp [go_sem]) (by show ((do pure (.bool (<- Op.equal t (.bool b) (.bool c))):Sem Value)).run P w=_;rw [Sem.run_bind,u5 b c ht];rfl)
theorem nc (E:Fr a n e ds){t t':TypeId}{b c:Bool}(ho:o.op = .binOp .neq t x y t')(hx:ev e x=some (.bool b))(hy:ev e y=some (.bool c))(ht:P.underlying t=some .bool):ab P o a w (.bool (b != c)) w :=
 cu E ho hx hy (by simp [go_sem]) (by show ((do pure (.bool !(<- Op.equal t (.bool b) (.bool c))):Sem Value)).run P w=_;rw [Sem.run_bind,u5 b c ht];rfl)
theorem yR (b c:List UInt8):(b==c)=decide (b=c):=by
 by_cases h:b=c
 ·simp [h]
 ·simp [h]
theorem yi (E:Fr a n e ds){t t':TypeId}{b c:List UInt8}(ho:o.op = .binOp .eql t x y t')(hx:ev e x=some (str b))(hy:ev e y=some (str c)):ab P o a w (.bool (decide (b=c))) w :=
 cu E ho hx hy (by simp [go_sem]) (by show (Op.stringOp .eql ⟨b.toArray⟩ ⟨c.toArray⟩).run P w=_;simp [Op.stringOp,yR])
theorem kF (E:Fr a n e ds){t t':TypeId}{b c:List UInt8}(ho:o.op = .binOp .neq t x y t')(hx:ev e x=some (str b))(hy:ev e y=some (str c)):ab P o a w (.bool (!decide (b=c))) w :=
 cu E ho hx hy (by simp [go_sem]) (by show (Op.stringOp .neq ⟨b.toArray⟩ ⟨c.toArray⟩).run P w=_;simp [Op.stringOp,yR])
theorem tQ {t el:TypeId}(d:Nat)(ad:Option Addr)(ht:P.underlying t=some (.pointer el)):(Op.equalIn (d+1) t (.pointer ad) (.pointer none)).run P w = .ok ad.isNone w:=by
 cases ad <;> simp [Op.equalIn,run_underlying ht]
theorem pa {t el:TypeId}(ad:Option Addr)(ht:P.underlying t=some (.pointer el)):(Op.equal t (.pointer ad) (.pointer none)).run P w = .ok ad.isNone w:=tQ 9999 ad ht
theorem u6 (E:Fr a n e ds){t t' el:TypeId}{ad:Option Addr}(ho:o.op = .binOp .eql t x y t')(hx:ev e x=some (.pointer ad))(hy:ev e y=some (.pointer none))(ht:P.underlying t=some (.pointer el)):ab P o a w (.bool ad.isNone) w :=
 cu E ho hx hy (by simp [go_sem]) (by show ((do pure (.bool (<- Op.equal t (.pointer ad) (.pointer none))):Sem Value)).run P w=_;rw [Sem.run_bind,pa ad ht];rfl)
theorem jP (E:Fr a n e ds){t t' el:TypeId}{ad:Option Addr}(ho:o.op = .binOp .neq t x y t')(hx:ev e x=some (.pointer ad))(hy:ev e y=some (.pointer none))(ht:P.underlying t=some (.pointer el)):ab P o a w (.bool !ad.isNone) w :=
 cu E ho hx hy (by simp [go_sem]) (by show ((do pure (.bool !(<- Op.equal t (.pointer ad) (.pointer none))):Sem Value)).run P w=_;rw [Sem.run_bind,pa ad ht];rfl)
theorem tg (E:Fr a n e ds){ad:Addr}(ho:o.op = .nilCheck x)(hx:ev e x=some (.pointer (some ad))):ab P o a w (.pointer (some ad)) w:=by
 simp [ab,execOp,ho,E.eval hx]
def nf (P:Program)(s:TypeId)(f:Nat):Option Nat :=
 match P.underlying s with
 | some (.struct fs)=>match fs[f]? with
  | some fd=>match P.info? fd.type with
   | some i=>if i.size=0 then none else some fd.offset
   | none=>none
  | none=>none
 | _=>none
theorem lR (E:Fr a n e ds){s:TypeId}{f off b q:Nat}(ho:o.op = .fieldAddr s x f)(hx:ev e x=some (.pointer (some ⟨b,off,none⟩)))(hf:nf P s f=some q) :
  ab P o a w (.pointer (some ⟨b,off+q,none⟩)) w:=by
 unfold nf at hf
 split at hf
 ·rename_i fs hs
  split at hf
  ·rename_i fd hfd
   split at hf
   ·rename_i i hi
    split at hf
    ·cases hf
    ·rename_i ey
     cases hf
     simp [ab,execOp,ho,E.eval hx,Instr.fieldAt,run_underlying hs,hfd,Instr.sureAddr,fieldPlace,sizeOf,typeInfo,hi,ey,Addr.add_lit]
   ·cases hf
  ·cases hf
 ·cases hf
theorem pc (E:Fr a n e ds){s:TypeId}{f b q:Nat}(ho:o.op = .fieldAddr s x f)(hx:ev e x=some (.pointer (some ⟨b,0,none⟩)))(hf:nf P s f=some q) :
  ab P o a w (.pointer (some ⟨b,q,none⟩)) w:=by
 have h:=lR (w:=w) E ho hx hf
 rwa [Nat.zero_add] at h
def scalar (P:Program)(t:TypeId):Bool :=
 match P.underlying t with
 | some (.struct _) | some (.array _ _) | none=>false
 | some _=>true
theorem dX {t:TypeId}(h:scalar P t=true):(isAgg t).run P w = .ok false w:=by
 unfold scalar at h
 cases hd:P.underlying t with
 | none=>simp [hd] at h
 | some d=>cases d <;> first | (simp [hd] at h;done) | simp [isAgg,run_underlying hd]
theorem jq {b j:Nat}{cs:Array Value}{t:TypeId}{fr:Nat×Nat}(hb:w.heap[b]? = some (.cells cs t fr)):w.cell? ⟨b,j,none⟩=cs[j]?:=cell_of_row w b j cs t fr hb
theorem TA (E:Fr a n e ds){t T:TypeId}{b j:Nat}{l:List Value}{fr:Nat×Nat}(ho:o.op = .load t x)(hx:ev e x=some (.pointer (some ⟨b,j,none⟩)))(ht:scalar P t=true)
  (hb:w.heap[b]? = some (.cells l.toArray T fr)) (hv:l[j]? = some v):ab P o a w v w:=by
 have h1:w.cell? ⟨b,j,none⟩=some v:=by rw [jq hb,getElem?_toArray];exact hv
 simp [ab,execOp,ho,E.eval hx,Instr.loadAt,Instr.sureAddr,loadVar,dX ht,h1]
def km (P:Program)(t:TypeId):Option Nat :=
 match P.underlying t with
 | some (.struct _) | some (.array _ _)=>(P.info? t).map (·.size)
 | _=>none
theorem kG {t q:Nat}(h:km P t=some q):(isAgg t).run P w = .ok true w:=by
 unfold km at h
 cases hd:P.underlying t with
 | none=>simp [hd] at h
 | some d=>cases d <;> first | (simp [hd] at h;done) | simp [isAgg,run_underlying hd]
theorem u7 {t q:Nat}(h:km P t=some q):(P.info? t).map (·.size)=some q:=by
 unfold km at h
 split at h <;> first | exact h | cases h
theorem run_sizeOf {t q:Nat}(h:(P.info? t).map (·.size)=some q):(sizeOf t).run P w = .ok q w:=by
 cases hi:P.info? t with
 | none=>simp [hi] at h
 | some i=>simp only [hi,Option.map_some,Option.some.injEq] at h;simp [sizeOf,typeInfo,hi,h]
theorem th (E:Fr a n e ds){t T:TypeId}{b j q:Nat}{cs:Array Value}{fr:Nat×Nat}{vs:List Value}(ho:o.op = .load t x)(hx:ev e x=some (.pointer (some ⟨b,j,none⟩)))(ht:km P t=some q)
  (hb:w.heap[b]? = some (.cells cs T fr)) (hl:vs.length=q) (hv:∀i u,vs[i]? = some u->cs[j+i]? = some u):ab P o a w (.agg vs.toArray) w:=by
 subst hl
 have h1:(loadCells ⟨b,j,none⟩ vs.length).run P w = .ok vs.toArray w :=
  run_loadCells_list w ⟨b,j,none⟩ vs fun i u hu=>by
   rw [Addr.add_lit,jq hb];exact hv i u hu
 simp [ab,execOp,ho,E.eval hx,Instr.loadAt,Instr.sureAddr,loadVar,kG ht,run_sizeOf (u7 ht),h1]
theorem jr (E:Fr a n e ds){t el:TypeId}{b off l c i s:Nat}{k:IntKind}{q:Int}(ho:o.op = .indexAddr t x y)(hx:ev e x=some (.slice (some ⟨b,off,none⟩) l c))(hy:ev e y=some (.int k q))
  (ht:P.underlying t=some (.slice el)) (hs:(P.info? el).map (·.size)=some s) (hq:q=(i:Int)) (hi:i<l):ab P o a w (.pointer (some ⟨b,off+i*s,none⟩)) w:=by
 subst hq
 simp [ab,execOp,ho,E.eval hx,E.eval hy,Instr.indexAt,asIntOf,run_underlying ht,hi,run_sizeOf hs,Addr.add_lit]
theorem fI (E:Fr a n e ds){t el:TypeId}{b off l i s:Nat}{k:IntKind}{q:Int}(ho:o.op = .indexAddr t x y)(hx:ev e x=some (.pointer (some ⟨b,off,none⟩)))(hy:ev e y=some (.int k q))
  (ht:P.underlying t=some (.array l el)) (hs:(P.info? el).map (·.size)=some s) (hq:q=(i:Int)) (hi:i<l):ab P o a w (.pointer (some ⟨b,off+i*s,none⟩)) w:=by
 subst hq
 simp [ab,execOp,ho,E.eval hx,E.eval hy,Instr.indexAt,Instr.sureAddr,asIntOf,run_underlying ht,hi,run_sizeOf hs,Addr.add_lit]
theorem lS (E:Fr a n e ds){i:Nat}{vs:List Value}(ho:o.op = .extract x i)(hx:ev e x=some (.tuple vs.toArray))(hv:vs[i]? = some v):ab P o a w v w:=by
 simp [ab,execOp,ho,E.eval hx,Instr.extract,hv]
theorem CK (E:Fr a n e ds){fn:Fn}{cs:List Operand}{vs:List Value}(ho:o.op = .makeFunc fn #[] cs.toArray)(hc:IL e cs=some vs)(hf:∃k,fn = .func k):ab P o a w (.func fn #[] vs.toArray) w:=by
 obtain ⟨k,rfl⟩:=hf
 simp [ab,execOp,ho,Instr.makeFunc,E.td hc]
theorem NY (E:Fr a n e ds){s:TypeId}{f q:Nat}{cs:Array Value}{fs:Array Field}{fd:Field}(ho:o.op = .field s x f)(hx:ev e x=some (.agg cs))
  (hs:P.underlying s=some (.struct fs)) (hf:fs[f]? = some fd) (ht:scalar P fd.type=true) (hq:fd.offset=q) (hv:cs[q]? = some v):ab P o a w v w:=by
 subst hq
 simp [ab,execOp,ho,E.eval hx,Instr.field,run_underlying hs,hf,part,asAgg,dX ht,hv]
end
section
variable {P:Program}{a:Act}{w:World}{o:Oper}{n:Nat}{e:List (Nat×Value)}{ds:List Deferred}{x y z:Operand}{v u:Value}
theorem YL (E:Fr a n e ds){t:TypeId}(ho:o.op = .box t x)(hx:ev e x=some v) :
  ab P o a w (.pointer (some ⟨w.heap.size,0,none⟩)) (w.alloc (.cells v.cells t)):=by
 simp [ab,execOp,ho,E.eval hx,Instr.box,newVar,newRow]
theorem NZ (E:Fr a n e ds){t:TypeId}{i:TypeInfo}{zv:Value}(ho:o.op = .alloc t)(hi:P.info? t=some i)(hz:i.zero=some zv) :
  ab P o a w (.pointer (some ⟨w.heap.size,0,none⟩)) (w.alloc (.cells zv.cells t)):=by
 have _:=E.Kn
 simp [ab,execOp,ho,Instr.alloc,newVar,newRow,zeroValue,typeInfo,hi,hz]
end
abbrev ax (l:List Value)(T:TypeId):Obj:=.cells l.toArray T (0,0)
def Rd (C:Chunk)(s:Nat)(v:Value)(n:Nat)(xs:List Value):Prop :=
  xs.length=n*s/\(∀u∈xs,u.oneCell'=true)/\n<=maxLen /\
    ((n=0/\∃ad c,v = .slice ad 0 c) \/
     ∃b off c l T fr,v = .slice (some ⟨b,off,none⟩) n c/\(b,.cells l T fr)∈C/\∀i u,xs[i]? = some u->l[off+i]? = some u)
def aC (C:Chunk)(T:TypeId)(s:Nat)(v:Value)(n:Nat)(xs:List Value):Prop :=
  xs.length=n*s/\(∀u∈xs,u.oneCell'=true) /\
    ((v = .slice none 0 0/\n=0/\C=[]) \/
     ∃g c r,v = .slice (some ⟨g,0,none⟩) n c/\C=[(g,ax (xs++r) T)]/\n<=c/\c<=maxLen/\xs.length+r.length=c*s)
section
variable {C D:Chunk}{s n m:Nat}{v y:Value}{xs ys:List Value}{T:TypeId}
theorem aC.nil (T:TypeId)(s:Nat):aC [] T s (.slice none 0 0) 0 []:=⟨by simp,by simp,.inl ⟨rfl,rfl,rfl⟩⟩
theorem aC.slice (h:aC C T s v n xs):∃ad c,v = .slice ad n c:=by
 rcases h.2.2 with ⟨rfl,rfl,_⟩ | ⟨g,c,r,rfl,_⟩
 ·exact ⟨none,0,rfl⟩
 ·exact ⟨_,c,rfl⟩
theorem Rd.slice (h:Rd C s v n xs):∃ad c,v = .slice ad n c:=by
 rcases h.2.2.2 with ⟨rfl,ad,c,rfl⟩ | ⟨b,off,c,l,T,fr,rfl,_⟩
 ·exact ⟨ad,c,rfl⟩
 ·exact ⟨_,c,rfl⟩
theorem aC.rd (h:aC C T s v n xs):Rd C s v n xs:=by
 refine ⟨h.1,h.2.1, ?_, ?_⟩
 ·rcases h.2.2 with ⟨_,rfl,_⟩ | ⟨g,c,r,_,_,hn,hc,_⟩
  ·simp [maxLen]
  ·omega
 ·rcases h.2.2 with ⟨rfl,rfl,_⟩ | ⟨g,c,r,rfl,rfl,hn,hc,_⟩
  ·exact .inl ⟨rfl,none,0,rfl⟩
  ·refine .inr ⟨g,0,c,_,T,(0,0),rfl,mem_singleton.2 rfl,fun i u hu => ?_⟩
   have hi:i<xs.length:=(List.getElem?_eq_some_iff.1 hu).1
   simp [hi,getElem?_append]
   exact (List.getElem?_eq_some_iff.1 hu).2
theorem Rd.sub (h:Rd C s v n xs)(hs:∀x∈C,x∈D):Rd D s v n xs:=by
 refine ⟨h.1,h.2.1,h.2.2.1, ?_⟩
 rcases h.2.2.2 with h0 | ⟨b,off,c,l,T,fr,rfl,hm,hc⟩
 ·exact .inl h0
 ·exact .inr ⟨b,off,c,l,T,fr,rfl,hs _ hm,hc⟩
theorem Rd.nil (C:Chunk)(s:Nat):Rd C s (.slice none 0 0) 0 []:=⟨by simp,by simp,by simp [maxLen],.inl ⟨rfl,none,0,rfl⟩⟩
theorem Rd.cells {w:World}(h:Rd C s v n xs)(hC:∀x∈C,w.heap[x.1]? = some x.2){b off c:Nat}(hv:v = .slice (some ⟨b,off,none⟩) n c):∀i u,xs[i]? = some u->w.cell? ⟨b,off+i,none⟩=some u:=by
 intro i u hu
 rcases h.2.2.2 with ⟨rfl,ad,c',_⟩ | ⟨b',agw,c',l,T,fr,rfl,hm,hc⟩
 ·have:=h.1
  simp at this
  subst this
  simp at hu
 ·cases hv
  rw [jq (hC _ hm)]
  exact hc i u hu
theorem Rd.src {P:Program}{w:World}{tx e':TypeId}(h:Rd C s v n xs)(hC:∀x∈C,w.heap[x.1]? = some x.2)(hk:P.underlying tx=some (.slice e')):Src P s tx v n xs w:=by
 rcases h.2.2.2 with ⟨rfl,ad,c,rfl⟩ | ⟨b,off,c,l,T,fr,rfl,hm,hc⟩
 ·have h0:xs=[]:=eq_nil_of_length_eq_zero (by simpa using h.1)
  subst h0
  cases ad with
  | none=>exact Src.ofNil w hk c
  | some ad=>exact Src.ofSlice w hk ad 0 c [] (by simp) (by simp) (by simp)
 ·exact Src.ofSlice w hk ⟨b,off,none⟩ n c xs h.1 (fun j u hu=>by rw [Addr.add_lit];exact h.cells hC rfl j u hu) h.2.1
end
section
variable {P:Program}{a:Act}{w w0:World}{o:Oper}{n:Nat}{e:List (Nat×Value)}{ds:List Deferred}{x y z:Operand}{v u:Value}{As Ls Rs:List Chunk}{K:Act->World->Prop}{Q:Exit->Act->World->Prop}
theorem jg.wp {w':World}(h:jg P o a w w')(k:K (a.put o.dst undef) w'):o.wp P a w K Q:=by
 unfold Oper.wp;rw [h];exact k
theorem qk {b j:Nat}{l vs:List Value}{t T:TypeId}{v:Value}(hs:(P.info? t).map (·.size)=some vs.length)(hv:v.cells=vs.toArray)(h1:∀u∈vs,u.oneCell'=true)
  (hb:w.heap[b]? = some (ax l T)) (hj:j+vs.length<=l.length) :
  (storeVar t ⟨b,j,none⟩ v).run P w = .ok () (w.setRow b (l.take j++vs++l.drop (j+vs.length)).toArray):=by
 have bB:=run_storeCells_at P b j T vs 0 l.toArray w hb (by simpa using hj) h1
 simp only [Nat.add_zero] at bB
 simp [storeVar,hv,run_sizeOf hs,bB]
theorem St.row {b:Nat}{l l':List Value}{T:TypeId}(S:St w0 As w Ls)(hp:Ls.Perm ([(b,ax l T)] :: Rs)):St w0 As (w.setRow b l'.toArray) ([(b,ax l' T)] :: Rs) :=
 S.block hp rfl rfl rfl (by simp) (fun h=>setRow_heap w b _ _ T (0,0) h) (fun k hk=>setRow_other w b k _ hk)
theorem St.get {b:Nat}{ob:Obj}(S:St w0 As w Ls)(hp:Ls.Perm ([(b,ob)] :: Rs)):w.heap[b]? = some ob :=
 S.kE.one (hp.mem_iff.2 (mem_cons_self ..))
theorem Ko (E:Fr a n e ds)(S:St w0 As w Ls){t T:TypeId}{b j:Nat}{l:List Value}(ho:o.op = .store t x y)(hd:o.dst=none)(hx:ev e x=some (.pointer (some ⟨b,j,none⟩)))(hy:ev e y=some v)
  (h1:v.oneCell'=true) (hs:(P.info? t).map (·.size)=some 1) (hp:Ls.Perm ([(b,ax l T)] :: Rs)) (hj:j<l.length)
  (k:∀a' w',Fr a' n e ds->St w0 As w' ([(b,ax (l.set j v) T)] :: Rs)->K a' w'):o.wp P a w K Q:=by
 have hc:v.cells=[v].toArray:=by cases v <;> first | rfl | (simp [Value.oneCell'] at h1)
 have hr:=qk (P:=P) (w:=w) (j:=j) (vs:=[v]) (v:=v) hs hc (by simpa using h1) (S.get hp) (by simp;omega)
 have e1:l.take j++[v]++l.drop (j+1)=l.set j v:=by rw [set_eq_take_append_cons_drop,if_pos hj];simp
 refine jg.wp (w':=w.setRow b (l.set j v).toArray) ?_ (by rw [hd];exact k _ _ (E.CH _) (S.row hp))
 unfold jg
 simp only [length_singleton,e1] at hr
 simp [execOp,ho,E.eval hx,E.eval hy,Instr.storeAt,Instr.sureAddr,hr]
theorem Kp (E:Fr a n e ds)(S:St w0 As w Ls){t T:TypeId}{b j:Nat}{l vs:List Value}(ho:o.op = .store t x y)(hd:o.dst=none)(hx:ev e x=some (.pointer (some ⟨b,j,none⟩)))(hy:ev e y=some (.agg vs.toArray))
  (h1:∀u∈vs,u.oneCell'=true) (hs:(P.info? t).map (·.size)=some vs.length) (hp:Ls.Perm ([(b,ax l T)] :: Rs)) (hj:j+vs.length<=l.length)
  (k:∀a' w',Fr a' n e ds->St w0 As w' ([(b,ax (l.take j++vs++l.drop (j+vs.length)) T)] :: Rs)->K a' w'):o.wp P a w K Q:=by
 have hr:=qk (P:=P) (w:=w) (j:=j) (vs:=vs) (v:=.agg vs.toArray) hs rfl h1 (S.get hp) hj
 refine jg.wp (w':=w.setRow b (l.take j++vs++l.drop (j+vs.length)).toArray) ?_ (by rw [hd];exact k _ _ (E.CH _) (S.row hp))
 unfold jg
 simp [execOp,ho,E.eval hx,E.eval hy,Instr.storeAt,Instr.sureAddr,hr]
theorem YM (E:Fr a n e ds)(S:St w0 As w Ls){t:TypeId}{d:Nat}{vs:List Value}(ho:o.op = .box t x)(hd:o.dst=some d)(hn:d<n)(hx:ev e x=some v)(hv:v.cells=vs.toArray)
  (k:∀a' w' b,Fr a' n ((d,.pointer (some ⟨b,0,none⟩)) :: e) ds->St w0 As w' ([(b,ax vs t)] :: Ls)->K a' w'):o.wp P a w K Q :=
 (YL E ho hx).wp (by rw [hd];exact k _ _ w.heap.size (E.put hn _) (by rw [hv];exact S.alloc _))
theorem N0 (E:Fr a n e ds)(S:St w0 As w Ls){t:TypeId}{d:Nat}{i:TypeInfo}{zv:Value}{vs:List Value}(ho:o.op = .alloc t)(hd:o.dst=some d)(hn:d<n)(hi:P.info? t=some i)(hz:i.zero=some zv)(hv:zv.cells=vs.toArray)
  (k:∀a' w' b,Fr a' n ((d,.pointer (some ⟨b,0,none⟩)) :: e) ds->St w0 As w' ([(b,ax vs t)] :: Ls)->K a' w'):o.wp P a w K Q :=
 (NZ E ho hi hz).wp (by rw [hd];exact k _ _ w.heap.size (E.put hn _) (by rw [hv];exact S.alloc _))
theorem Kq (z:Value)(k:Nat):madeCells #[z] (k*1)=(replicate k z).toArray:=by
 apply Array.ext
 ·simp [madeCells]
 ·intro i h1 h2
  simp [madeCells,Nat.mod_one]
def kU (z:Array Value)(k:Nat):List Value:=(madeCells z k).toList
theorem qm (E:Fr a n e ds)(S:St w0 As w Ls){t el:TypeId}{d k:Nat}{i:TypeInfo}{zv:Value}{kl kc:IntKind}{q r:Int}(ho:o.op = .makeSlice t x y)(hd:o.dst=some d)(hn:d<n)
  (hx:ev e x=some (.int kl q)) (hy:ev e y=some (.int kc r)) (hq:q=(k:Int)) (hr:r=(k:Int))
  (ht:P.underlying t=some (.slice el)) (hi:P.info? el=some i) (hz:i.zero=some zv) (h1:∀u∈kU zv.cells (k*i.size),u.oneCell'=true) (hb:i.bytes*k<=281474976710656) (zT:k<=maxLen)
  (kk:∀a' w' v' C,Fr a' n ((d,v') :: e) ds->St w0 As w' (C :: Ls)->aC C el i.size v' k (kU zv.cells (k*i.size))->(∃g,v' = .slice (some ⟨g,0,none⟩) k k)->K a' w'):o.wp P a w K Q:=by
 subst hq hr
 have u9:(k:Int)<=9223372036854775807:=by simp only [maxLen] at zT;omega
 have Ks:(i.bytes:Int)*(k:Int)<=281474976710656:=by
  have h:((i.bytes*k:Nat):Int)<=281474976710656:=oZ
  rwa [Int.natCast_mul] at h
 have hr:=run_make (P:=P) w t el i zv ht hi hz kl kc k k (by omega) (Int.le_refl _) Ks u9
 simp only [Int.toNat_natCast] at hr
 have dQ:ab P o a w (.slice (some ⟨w.heap.size,0,none⟩) k k) (w.alloc (.cells (madeCells zv.cells (k*i.size)) el)):=by
  simp [ab,execOp,ho,E.eval hx,E.eval hy,hr]
 refine dQ.wp ?_
 rw [hd]
 refine kk _ _ _ [(w.heap.size,.cells (madeCells zv.cells (k*i.size)) el)] (E.put hn _) (S.alloc _) ?_ ⟨_,rfl⟩
 have hlen:(kU zv.cells (k*i.size)).length=k*i.size:=by simp [kU,madeCells]
 exact ⟨hlen,h1,.inr ⟨w.heap.size,k,[],rfl,by simp [kU],Nat.le_refl _,zT,by simp [hlen]⟩⟩
theorem mR.row {b:Nat}{l l':List Value}{T:TypeId}:mR w (w.setRow b l'.toArray) [[(b,ax l T)]] [[(b,ax l' T)]]:=by
 unfold mR
 simp only [flatten_cons,flatten_nil,append_nil]
 exact uW (w:=w) (w':=w.setRow b l'.toArray) rfl rfl rfl (by simp) (fun h=>setRow_heap w b _ _ T (0,0) h) (fun k hk=>setRow_other w b k _ hk) []
theorem va {C:Chunk}{T t tx ty:TypeId}{i:TypeInfo}{zv:Value}{m:Nat}{xs ys:List Value}(hB:aC C T i.size v n xs)(hC:∀x∈C,w.heap[x.1]? = some x.2)(hs:Src P i.size tx u m ys w)
  (ht:P.underlying t=some (.slice T)) (hi:P.info? T=some i) (hz:i.zero=some zv) (S0:zv.cells.size=i.size)
  (zT:n+m<=maxLen) (yj:(n+m)*i.bytes<=140737488355328) :
  ∃v' w' C',(Builtin.append_ #[t,tx] ty #[v,u]).run P w = .ok v' w'/\aC C' T i.size v' (n+m) (xs++ys)/\mR w w' [C] [C']:=by
 have hlen:(xs++ys).length=(n+m)*i.size:=by rw [length_append,hB.1,hs.newsLen,Nat.add_mul]
 have fJ:∀z∈xs++ys,z.oneCell'=true:=fun z hz=>by
  rcases List.mem_append.1 hz with h | h
  ·exact hB.2.1 z h
  ·exact hs.one z h
 have u9:((n+m:Nat):Int)<=9223372036854775807:=by simp only [maxLen] at zT;omega
 have grown:∀(old:Nat) (C:Chunk),old<n+m ->
   aC [(w.heap.size,.cells ((xs++ys).toArray++Builtin.zeroCells zv.cells (grownCap w (n+m) old T - (n+m))) T)] T i.size (.slice (some ⟨w.heap.size,0,none⟩) (n+m) (grownCap w (n+m) old T)) (n+m) (xs++ys) /\
   mR w (w.drew.alloc (.cells ((xs++ys).toArray++Builtin.zeroCells zv.cells (grownCap w (n+m) old T - (n+m))) T)) [C] [[(w.heap.size,.cells ((xs++ys).toArray++Builtin.zeroCells zv.cells (grownCap w (n+m) old T - (n+m))) T)]]:=by
  intro old C ho
  have yS:=grownCap_ge w (n+m) old T
  have ng:grownCap w (n+m) old T<=maxLen:=grownCap_le_maxLen w (n+m) old T zT
  refine ⟨⟨hlen,fJ,.inr ⟨w.heap.size,_,(Builtin.zeroCells zv.cells (grownCap w (n+m) old T - (n+m))).toList,rfl, ?_,yS,ng, ?_⟩⟩, ?_⟩
  ·simp [ax]
  ·rw [hlen]
   simp only [Array.length_toList,size_zeroCells,S0,<-Nat.add_mul]
   congr 1
   omega
  ·unfold mR
   simp only [flatten_cons,flatten_nil,append_nil]
   have h1:=uV w.drew (.cells ((xs++ys).toArray++Builtin.zeroCells zv.cells (grownCap w (n+m) old T - (n+m))) T) C
   exact Tr.drop (C:=C) (Tr.pre h1)
 rcases hB.2.2 with ⟨rfl,rfl,rfl⟩ | ⟨g,c,r,rfl,rfl,hnc,ng,N1⟩
 ·have hx:xs=[]:=eq_nil_of_length_eq_zero (by simpa using hB.1)
  subst hx
  by_cases hm:m=0
  ·subst hm
   have hy:ys=[]:=eq_nil_of_length_eq_zero (by simpa using hs.newsLen)
   subst hy
   refine ⟨.slice none 0 0,w,[], ?_,by simpa using aC.nil T i.size,mR.refl _ _⟩
   rcases hs.kind with ⟨e',hk⟩ | hk <;> simp [Builtin.append_,run_underlying ht,run_underlying hk,sizeOf,typeInfo,hi,hs.len,hs.cells]
  ·have hr:=run_append_grow_src (P:=P) w t tx ty T i zv ht hi hz none 0 0 [] (run_firstCells_none w.drew i.size 0 0 0) u m ys hs (by omega) u9 (growslice_fits (by omega) yj)
   obtain ⟨h1,h2⟩:=grown 0 [] (by omega)
   exact ⟨_,_,_,hr,h1,h2⟩
 ·have hg:w.heap[g]? = some (ax (xs++r) T):=hC _ (mem_singleton.2 rfl)
  by_cases fe:n+m<=c
  ·have bJ:n*i.size+ys.length<=(xs++r).length:=by
    rw [hs.newsLen,<-Nat.add_mul,length_append,N1];exact Nat.mul_le_mul_right _ fe
   have bB:=run_storeCells_at P g (n*i.size) T ys 0 (xs++r).toArray w hg (by simpa using bJ) hs.one
   simp only [Nat.add_zero] at bB
   have e1:(xs++r).take (n*i.size)++ys++(xs++r).drop (n*i.size+ys.length)=xs++ys++r.drop ys.length:=by
    rw [<-hB.1,take_left,<-drop_drop,drop_left]
   rw [e1] at bB
   refine ⟨.slice (some ⟨g,0,none⟩) (n+m) c,w.setRow g (xs++ys++r.drop ys.length).toArray,[(g,ax (xs++ys++r.drop ys.length) T)], ?_,⟨hlen,fJ,.inr ⟨g,c,r.drop ys.length,rfl,rfl,fe,ng, ?_⟩⟩,mR.row⟩
   ·rcases hs.kind with ⟨e',hk⟩ | hk <;> simp [Builtin.append_,run_underlying ht,run_underlying hk,sizeOf,typeInfo,hi,hs.len,fe,hs.cells,Addr.add_lit,bB]
   ·have:=hB.1
    rw [length_append] at bJ ⊢
    rw [length_drop]
    omega
  ·have hold:(Builtin.firstCells i.size n (.slice (some ⟨g,0,none⟩) n c)).run P w.drew = .ok xs.toArray w.drew :=
    run_firstCells_some w.drew i.size n ⟨g,0,none⟩ n c xs hB.1 fun j z hz=>by
     rw [Addr.add_lit,World.cell?_drew,jq hg]
     have hj:j<xs.length:=(List.getElem?_eq_some_iff.1 hz).1
     simp only [Nat.zero_add,getElem?_toArray,getElem?_append_left hj]
     exact hz
   have hr:=run_append_grow_src (P:=P) w t tx ty T i zv ht hi hz (some ⟨g,0,none⟩) n c xs hold u m ys hs (by omega) u9 (growslice_fits (by omega) yj)
   obtain ⟨h1,h2⟩:=grown c [(g,ax (xs++r) T)] (by omega)
   exact ⟨_,_,_,hr,h1,h2⟩
theorem yT (E:Fr a n e ds)(S:St w0 As w Ls){C:Chunk}{t tx T:TypeId}{d m q s ja:Nat}{i:TypeInfo}{zv:Value}{xs ys:List Value}(ho:o.op = .call { callee:=.builtin .append,args:=#[x,y],argTypes:=#[t,tx] })(hd:o.dst=some d)(hn:d<n)
  (hx:ev e x=some v) (hy:ev e y=some u) (hB:aC C T s v q xs) (hp:Ls.Perm (C :: Rs)) (hs:Src P s tx u m ys w)
  (ht:P.underlying t=some (.slice T)) (hi:P.info? T=some i) (hz:i.zero=some zv) (bu:i.size=s) (S0:zv.cells.size=s) (YN:i.bytes=ja)
  (zT:q+m<=maxLen) (yj:(q+m)*ja<=140737488355328)
  (k:∀a' w' v' C',Fr a' n ((d,v') :: e) ds->St w0 As w' (C' :: Rs)->aC C' T s v' (q+m) (xs++ys)->K a' w'):o.wp P a w K Q:=by
 subst bu YN
 have hC:∀x∈C,w.heap[x.1]? = some x.2:=S.kE.at (hp.mem_iff.2 (mem_cons_self ..))
 obtain ⟨v',w',C',hr,Ci,hT⟩:=va (P:=P) (w:=w) (ty:=o.type) hB hC hs ht hi hz S0 zT yj
 have dQ:ab P o a w v' w':=by
  simp [ab,execOp,ho,resolve,invoke,builtin,E.eval hx,E.eval hy,hr]
 refine dQ.wp ?_
 rw [hd]
 exact k _ _ v' C' (E.put hn _) ((S.perm hp).Xb (CG (kR _ _) (IK _)) hT) Ci
theorem N2 (E:Fr a n e ds)(S:St w0 As w Ls){t el:TypeId}{d k ja:Nat}{i:TypeInfo}{zv:Value}{kl kc:IntKind}{q r:Int}(ho:o.op = .makeSlice t x y)(hd:o.dst=some d)(hn:d<n)
  (hx:ev e x=some (.int kl q)) (hy:ev e y=some (.int kc r)) (hq:q=(k:Int)) (hr:r=(k:Int))
  (ht:P.underlying t=some (.slice el)) (hi:P.info? el=some i) (hz:i.zero=some zv) (bu:i.size=1) (hzv:zv.cells=#[zv]) (h1:zv.oneCell'=true) (YN:i.bytes=ja) (hb:ja*k<=281474976710656) (zT:k<=maxLen)
  (kk:∀a' w' g,Fr a' n ((d,.slice (some ⟨g,0,none⟩) k k) :: e) ds->St w0 As w' ([(g,ax (replicate k zv) el)] :: Ls)->K a' w'):o.wp P a w K Q:=by
 subst YN
 have hz1:kU zv.cells (k*i.size)=replicate k zv:=by
  have h:=Kq zv k
  unfold kU
  rw [bu,hzv,h]
 refine qm E S ho hd hn hx hy hq hr ht hi hz ?_ hb zT ?_
 ·rw [hz1];intro u hu;rw [(mem_replicate.1 hu).2];exact h1
 ·intro a' w' v' C E' S' hB hv
  obtain ⟨g,rfl⟩:=hv
  rw [hz1] at hB
  rcases hB.2.2 with ⟨h,_⟩ | ⟨g',c,r,h,hC,hc,_,hl⟩
  ·cases h
  ·cases h
   have:r=[]:=by
    refine eq_nil_of_length_eq_zero ?_
    rw [bu] at hl;simp at hl;exact length_eq_zero_iff.2 hl
   subst this
   subst hC
   rw [append_nil] at S'
   exact kk a' w' g E' S'
theorem TC (E:Fr a n e ds)(S:St w0 As w Ls){t tx el T:TypeId}{d b j dl dc m:Nat}{l ys:List Value}(ho:o.op = .call { callee:=.builtin .copy,args:=#[x,y],argTypes:=#[t,tx] })(hd:o.dst=some d)(hn:d<n)
  (hx:ev e x=some (.slice (some ⟨b,j,none⟩) dl dc)) (hy:ev e y=some u) (hp:Ls.Perm ([(b,ax l T)] :: Rs)) (hs:∀k,k<=m->Src P 1 tx u m ys w/\(Builtin.firstCells 1 k u).run P w = .ok (ys.take k).toArray w)
  (ht:P.underlying t=some (.slice el)) (h1:(P.info? el).map (·.size)=some 1) (bJ:j+min m dl<=l.length)
  (k:∀a' w',Fr a' n ((d,.int .i64 (min m dl:Nat)) :: e) ds->St w0 As w' ([(b,ax (l.take j++ys.take (min m dl)++l.drop (j+min m dl)) T)] :: Rs)->K a' w'):o.wp P a w K Q:=by
 have hq:=(hs (min m dl) (Nat.min_le_left _ _)).2
 have N3:=(hs 0 (Nat.zero_le _)).1
 have Xe:(ys.take (min m dl)).length=min m dl:=by have:=N3.newsLen;simp;omega
 have fJ:∀z∈ys.take (min m dl),z.oneCell'=true:=fun z hz=>N3.one z (mem_of_mem_take hz)
 have bB:=run_storeCells_at P b j T (ys.take (min m dl)) 0 l.toArray w (S.get hp) (by rw [Xe];simpa using bJ) fJ
 simp only [Nat.add_zero,Xe] at bB
 have dQ:ab P o a w (.int .i64 (min m dl:Nat)) (w.setRow b (l.take j++ys.take (min m dl)++l.drop (j+min m dl)).toArray):=by
  have hm:Nat.min m dl=min m dl:=rfl
  simp [ab,execOp,ho,resolve,invoke,builtin,E.eval hx,E.eval hy,Builtin.copy_,run_underlying ht,N3.len,run_sizeOf h1,hm,hq,bB,goInt]
 refine dQ.wp ?_
 rw [hd]
 exact k _ _ (E.put hn _) (S.row hp)
end
end Go.Sl
