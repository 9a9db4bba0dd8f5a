/-
  3.
-/
import Derived.Test.YtpabnmeponmonaaGreatDoorZTopCrashes2
set_option maxRecDepth 10000
set_option maxHeartbeats 4000000
open List Go.Proofs.Tryz Go.Sl
namespace Go.Sl
abbrev RF (ro:Option Nat):Fence:={ Fence.wide with round:=ro }
def cn (o:Oper):Bool:=match o.op with
 | .defer _=>false
 | _=>true
section
variable {P:Program}{Q:Exit->Act->World->Prop}{a:Act}{w:World}{o:Oper}{K K':Act->World->Prop}{ro:Option Nat}{ops:Array Oper}{id:Nat}
theorem YX {f:FuncId}{args:Array Value}{R:Ending->World->Prop}:CallsIn (RF ro) 0 P f args w R↔Calls P f args w R:=callsIn_wide (n:=0)
theorem abw {row:String}{args:Array Value}{R:Value->World->Prop}(h:Rows P row args w R):RowsIn (RF ro) 0 P row args w R :=
 fun c cs _=>let ⟨v,w',r,s⟩:=h c cs;⟨v,w',r,stepsIn_wide.2 s⟩
theorem bq (h:Q .normal a w):dA Q .normal a w:=h
theorem GI:¬LetsOut (dA Q):=fun ⟨_,_,h⟩=>h
theorem Xg (hd:cn o=true)(h:o.wp P a w K (dA Q))(hK:∀a w,K a w->K' a w):o.wpIn (RF ro) 0 P a w K' Q:=by
 refine ⟨fun _ _=>trivial, ?_⟩
 have hs:o.semAt (RF ro).round a.eval=execOp a.eval o:=Oper.semAt_eq _ _ _ (fun c hc=>by simp [cn,hc] at hd)
 rw [hs]
 unfold Oper.wp at h
 generalize (execOp a.eval o).run P w=r at h ⊢
 cases r with
 | ok x w' =>
  cases x <;> simp only [Oper.upon,Oper.uponIn] at h ⊢ <;>
   first
    | exact h.elim
    | exact hK _ _ h
    | exact ⟨fun h=>by simp [Fence.wide] at h,YX.2 (Calls.mono h fun e w'' he=>by cases e <;> first | exact hK _ _ he | exact he.elim | exact absurd he GI)⟩
    | exact ⟨fun h=>by simp [Fence.wide] at h,abw (Rows.mono h fun _ _ he=>hK _ _ he)⟩
 | halt x w'=>cases x <;> simp only [Oper.upon,Oper.uponIn] at h ⊢ <;> exact h.elim
theorem z8:∀(L:List Oper) (a:Act) (w:World),L.all cn=true->wpList P ops (dA Q) L a w->wpListIn (RF ro) 0 P ops Q L a w
 | [],_,_,_,h=>h
 | o :: rest,a,w,hd,h=>by
  simp only [all_cons,Bool.and_eq_true] at hd
  unfold wpList at h
  unfold wpListIn
  split
  ·rename_i hw
   rw [if_pos hw] at h
   rcases h with h | ⟨_,h⟩
   ·exact Xg hd.1 h fun a w h=>z8 rest a w hd.2 h
   ·exact absurd h GI
  ·rename_i hw
   rw [if_neg hw] at h
   exact ⟨fun _ _=>trivial,z8 rest _ _ hd.2 h⟩
theorem Aa (hd:∀(i:Nat) (o:Oper),ops[i]? = some o->cn o=true):∀(fuel:Nat) (listed:Array Bool) (a:Act) (w:World),wpAny P .any ops (dA Q) fuel listed a w->wpAnyIn (RF ro) 0 P .any ops Q fuel listed a w
 | 0,_,_,_,h=>h
 | fuel+1,listed,a,w,h=>⟨h.1,fun i hi=>by
  have h2:=h.2 i hi
  unfold wpOp at h2
  unfold wpOpIn
  split
  ·rename_i ho
   simp only [ho] at h2
   exact Aa hd fuel _ _ _ h2
  ·rename_i o ho
   simp only [ho] at h2
   split
   ·rename_i hw
    rw [if_pos hw] at h2
    rcases h2 with h2 | ⟨_,h2⟩
    ·exact Xg (hd i o ho) h2 fun a w h=>Aa hd fuel _ a w h
    ·exact absurd h2 GI
   ·rename_i hw
    rw [if_neg hw] at h2
    exact ⟨fun _ _=>trivial,Aa hd fuel _ _ _ h2⟩⟩
theorem du {L:List Oper}(hd:L.all cn=true)(h:wpList P L.toArray (dA Q) L a w):(Code.region id L.toArray false).wpIn (RF ro) 0 P Q a w :=
 wpIn_region_lit (z8 L a w hd h)
theorem Ab {l:List Oper}(hd:l.all cn=true)(ord:aB)(S:World->Prop)(hm:P.follows .mixedOrders=true)(hB:lQ l.toArray ord=true)(hS:S w.drew)(h:eP P l.toArray S (dA Q) ord a w.drew):(Code.region id l.toArray true).wpIn (RF ro) 0 P Q a w:=by
 simp only [lQ,Bool.and_eq_true,beq_iff_eq] at hB
 obtain ⟨⟨h1,h2⟩,h3⟩:=hB
 have h4:=dt (js:=qi l.toArray.size ord) (S:=S) h1 ord _ a w.drew h3 (by simp) (fun j o _ hj=>by simp [Array.getD] at hj) (.inr hS) h
 rw [h2] at h4
 exact wpIn_region_any hm (Aa (fun i o ho=>all_eq_true.1 hd o (mem_of_getElem? (by simpa using ho))) _ _ _ _ (u1 _ _ _ _ h4))
theorem dY {x y:Code}(h:∀K:Act->World->Prop,(∀a w,y.wpIn (RF ro) 0 P Q a w->K a w)->x.wpIn (RF ro) 0 P (Exit.then K Q) a w):(Code.seq x y).wpIn (RF ro) 0 P Q a w:=wpIn_seq_k h
theorem nV (h:Q .normal a w):Code.skip.wpIn (RF ro) 0 P Q a w:=wpIn_skip h
theorem GJ (h:Q .ret a w):Code.ret.wpIn (RF ro) 0 P Q a w:=wpIn_ret h
theorem Ac {i:Nat}(h:Q (.exit i) a w):(Code.exit i).wpIn (RF ro) 0 P Q a w:=wpIn_exit h
theorem nj {i:Nat}{c:Code}(h:c.wpIn (RF ro) 0 P (Exit.inBlock i Q) a w):(Code.block i c).wpIn (RF ro) 0 P Q a w:=wpIn_block h
theorem kH {c:Code}(I:Nat->Act->World->Prop)(n₀:Nat)(h₀:I n₀ a w)
  (round:∀n a w,I n a w->c.wpIn (RF ro) 0 P (Exit.then (fun a' w'=>∃n',n'<n/\I n' a' w') Q) a w):(Code.loop c).wpIn (RF ro) 0 P Q a w:=by
 refine wpIn_loop (fun a w=>∃n,I n a w) (fun a w=>leastOf (fun n=>I n a w)) ⟨n₀,h₀⟩ ?_
 intro a w hI
 refine wpIn_mono (round _ a w (leastOf_spec hI).1) ?_
 intro e a' w' hq
 cases e with
 | normal =>
  obtain ⟨n',br,rO⟩:=hq
  exact show (∃n,I n a' w')/\leastOf (fun n=>I n a' w')<leastOf (fun n=>I n a w) from ⟨⟨n',rO⟩,Nat.lt_of_le_of_lt ((leastOf_spec ⟨n',rO⟩).2 n' rO) br⟩
 | exit id=>exact hq
 | goto l=>exact hq
 | ret=>exact hq
 | panic ch=>exact hq
 | outgrown=>exact hq
end
section
variable {P:Program}{Q:Exit->Act->World->Prop}{a:Act}{w w0:World}{As Ls Rs:List Chunk}{o:Oper}{K:Act->World->Prop}{ro:Option Nat}{n:Nat}{e:List (Nat×Value)}{ds:List Deferred}
theorem Om (E:Fr a n e ds){c:Operand}{x y:Code}{b:Bool}(hc:ev e c=some (.bool b))(ht:b=true->x.wpIn (RF ro) 0 P Q a w)(hf:b=false->y.wpIn (RF ro) 0 P Q a w):(Code.cond c x y).wpIn (RF ro) 0 P Q a w :=
 wpIn_cond_split (E.eval hc) ht hf
theorem qz (E:Fr a n e ds){c:Operand}{x y:Code}{b:Bool}(hc:ev e c=some (.bool b))(hb:b=true)(ht:x.wpIn (RF ro) 0 P Q a w):(Code.cond c x y).wpIn (RF ro) 0 P Q a w :=
 wpIn_cond_split (E.eval hc) (fun _=>ht) (fun h=>by rw [hb] at h;cases h)
theorem kX (E:Fr a n e ds){c:Operand}{x y:Code}{b:Bool}(hc:ev e c=some (.bool b))(hb:b=false)(hf:y.wpIn (RF ro) 0 P Q a w):(Code.cond c x y).wpIn (RF ro) 0 P Q a w :=
 wpIn_cond_split (E.eval hc) (fun h=>by rw [hb] at h;cases h) (fun _=>hf)
theorem iM {l:Nat}{r:Loop}(h:w.heap[l]? = some (.loop r)):(Instr.getLoop l).run P w = .ok r w:=by
 have h1:(getObj l).run P w = .ok (.loop r) w:=by simp [getObj,Sem.run,h]
 simp [Instr.getLoop,h1]
theorem qA {l:Nat}{r:Loop}{x':Obj}(h:w.heap[l]? = some (.loop r)):(setObj l x').run P w = .ok () { w with heap:=w.heap.setIfInBounds l x' }:=by simp [setObj,Sem.run,h]
theorem St.On {l:Nat}{x x':Obj}(S:St w0 As w ([(l,x)] :: Ls)):St w0 As { w with heap:=w.heap.setIfInBounds l x' } ([(l,x')] :: Ls) :=
 S.block (F:={ w with heap:=w.heap.setIfInBounds l x' }) pk1 rfl rfl rfl (by simp) (fun h=>by
  have:=(Array.getElem?_eq_some_iff.1 h).1
  simp [this]) (fun k hk=>by simp [Array.getElem?_setIfInBounds,Ne.symm hk])
theorem St.vB {l:Nat}{x:Obj}(S:St w0 As w ([(l,x)] :: Ls)):w.heap[l]? = some x:=S.kE.one (List.Mem.head _)
def Xh (l:Nat)(w0:World)(As:List Chunk)(rc:Loop)(R:Ending->World->Prop):Exit->Act->World->Prop
 | .normal,_,w=>∃bm,St w0 As w ([(l,.loop { rc with state:=.busy })] :: bm)/\∀w',St w0 As w' ([(l,.loop { rc with state:=.ready,pending:=none })] :: bm)->R (.returned (.bool true)) w'
 | .ret,_,w=>∃bm,St w0 As w ([(l,.loop { rc with state:=.busy })] :: bm)/\∀w',St w0 As w' ([(l,.loop { rc with state:=.done,pending:=some .ret })] :: bm)->R (.returned (.bool false)) w'
 | _,_,_=>False
theorem KE {l:Nat}{rc:Loop}{R:Ending->World->Prop}:∀(x:Exit) (a:Act) (w:World),Xh l w0 As rc R x a w->roundPost P l R x a w:=by
 intro x a w h
 cases x with
 | normal =>
  obtain ⟨bm,S,k⟩:=h
  exact ⟨.bool true,_,by simp [Instr.endRound,iM S.vB,qA S.vB],k _ S.On⟩
 | ret =>
  obtain ⟨bm,S,k⟩:=h
  exact ⟨.bool false,_,by simp [Instr.endRound,iM S.vB,qA S.vB],k _ S.On⟩
 | exit i=>exact h.elim
 | goto l=>exact h.elim
 | panic c=>exact h.elim
 | outgrown=>exact h.elim
theorem Oo {l:Nat}{f:FuncId}{tmps:Array Value}{assign body:Code}{rc:Loop}{R:Ending->World->Prop}(S:St w0 As w ([(l,.loop rc)] :: Ls))(bB:rc.state = .ready)(E:Fr ⟨tmps,[]⟩ n e)
  (h:∀a,Fr a n e->assign.wpIn (RF (some l)) 0 P (Exit.then (fun a1 w1=>∃Oq,St w0 As w1 ([(l,.loop rc)] :: Oq)/\∀w2,St w0 As w2 ([(l,.loop { rc with state:=.busy })] :: Oq) ->
   body.wpIn (RF (some l)) 0 P (Xh l w0 As rc R) a1 w2) (fun _ _ _=>False)) a w):RoundIn Fence.wide 0 P l f tmps assign body w R:=by
 refine roundIn_of_wpIn (F:=Fence.wide) trivial (wpIn_mono (h _ E) ?_)
 intro x a1 w1 hx
 cases x with
 | normal =>
  obtain ⟨Oq,S1,k⟩:=hx
  refine ⟨_, ?_,wpIn_mono (k _ S1.On) KE⟩
  simp [Instr.beginRound,iM S1.vB,qA S1.vB,bB]
 | exit i=>exact hx.elim
 | goto l=>exact hx.elim
 | ret=>exact hx.elim
 | panic c=>exact hx.elim
 | outgrown=>exact hx.elim
theorem KF (E:Fr a n e ds){p0 p1:Nat}(h0:p0<n)(h1:p1<n)(v0 v1:Value) :
  Fr ⟨((#[p0,p1]:Array Tmp).zip #[v0,v1]).foldl (fun tmps x=>tmps.setIfInBounds x.1 x.2) a.tmps,[]⟩ n ((p1,v1) :: (p0,v0) :: e):=by
 have h:=(E.put h0 v0).put h1 v1
 exact ⟨by simpa [Act.put] using h.size,rfl,fun k v hk=>by simpa [Act.put] using h.get k v hk⟩
theorem Ot (E:Fr a n e ds){l:Nat}{g:Operand}{xs:List Operand}{ts:Array TypeId}{vs:List Value}{rc:Loop}(ho:o.op = .call { callee:=.value g,args:=xs.toArray,argTypes:=ts })(hgv:ev e g=some (.func (.yield l) #[] #[]))
  (hx:IL e xs=some vs) (hl:w.heap[l]? = some (.loop rc)) (bu:vs.length=rc.params.size)
  (hr:RoundIn Fence.wide 0 P l rc.fn ((rc.params.zip vs.toArray).foldl (fun tmps x=>tmps.setIfInBounds x.1 x.2) rc.tmps) rc.assign rc.body w fun en w'=>∃v,en = .returned v/\K (a.put o.dst v) w'):o.wpIn (RF none) 0 P a w K Q:=by
 refine ⟨fun _ _=>trivial, ?_⟩
 have dQ:(execOp a.eval o).run P w = .ok (.round l rc.fn ((rc.params.zip vs.toArray).foldl (fun tmps x=>tmps.setIfInBounds x.1 x.2) rc.tmps) rc.assign rc.body) w:=by
  unfold execOp
  simp [ho,resolve,E.eval hgv,Deferred.ofValue,invoke,E.td hx,Instr.yield,iM hl,bu]
 have hs:o.semAt (RF none).round a.eval=execOp a.eval o:=rfl
 rw [hs,dQ]
 refine ⟨fun h=>by simp [Fence.wide] at h, ?_⟩
 refine RoundIn.mono hr ?_
 rintro en w' ⟨v,rfl,h⟩
 exact h
theorem KG (E:Fr a n e [])(S:St w0 As w Ls){g:Operand}{ps:Array Tmp}{assign body:Code}{f:FuncId}{fn:Func}{cap:List Value}(hg:ev e g=some (.func (.func f) #[] cap.toArray))
  (hf:P.funcs[f]? = some fn) (hb:fn.body.isSome=true) (Xd:(fn.name == "runtime.NumGoroutine")=false)
  (h:∀(fi:FuncId) (l r:Nat) (w1:World),St w0 As w1 ([(l,.loop ⟨.ready,none,fi,a.tmps,ps,assign,body,r⟩)] :: [(r,.deferred (some []))] :: Ls) ->
   CallsIn Fence.wide 0 P f (.func (.yield l) #[] #[] :: cap).toArray w1 fun en w'=>∃v,en = .returned v/\∃jump st bm,st≠LoopState.busy/\St w0 As w' ([(l,.loop ⟨st,jump,fi,a.tmps,ps,assign,body,r⟩)] :: bm) /\
    ∀w2,St w0 As w2 bm->∀a',Fr a' n e [⟨.collected r,#[]⟩]->(jump=none/\Q .normal a' w2)\/(jump=some .ret/\Q .ret a' w2)):(Code.rangeFunc g ps assign body).wp P Q a w:=by
 refine (wpIn_wide (n:=0)).1 (wpIn_rangeFunc fun fi _ => ?_)
 have S1:=(S.alloc (.deferred (some []))).alloc (.loop ⟨.ready,none,fi,a.tmps,ps,assign,body,w.heap.size⟩)
 have bu:(w.alloc (.deferred (some []))).heap.size=w.heap.size+1:=by simp
 rw [bu] at S1
 obtain ⟨W1,hW1⟩:∃W1,W1=(w.alloc (.deferred (some []))).alloc (.loop ⟨.ready,none,fi,a.tmps,ps,assign,body,w.heap.size⟩):=⟨_,rfl⟩
 rw [<-hW1] at S1
 have Dc:=h fi (w.heap.size+1) w.heap.size W1 S1
 refine ⟨w.heap.size+1,[⟨.collected w.heap.size,#[]⟩],W1,⟨.fn (.func f) cap.toArray,#[.func (.yield (w.heap.size+1)) #[] #[]]⟩,W1,f,(.func (.yield (w.heap.size+1)) #[] #[] :: cap).toArray,W1, ?_, ?_,fun _ _=>trivial, ?_,fun h=>by simp [Fence.wide] at h, ?_⟩
 ·rw [hW1];simp [Instr.enterLoop,Fence.wide,bu]
 ·have hy:a.eval (.const (.func (.yield (w.heap.size+1)) #[] #[])) = .func (.yield (w.heap.size+1)) #[] #[]:=rfl
  simp [resolve,E.eval hg,hy,Deferred.ofValue]
 ·simp [invoke,jo hf hb Xd]
 ·refine CallsIn.mono Dc ?_
  rintro en w3 ⟨v,rfl,jump,st,bm,bB,S3,k⟩
  have hE:Fr { tmps:=a.tmps,defers:=[⟨.collected w.heap.size,#[]⟩]++a.defers } n e [⟨.collected w.heap.size,#[]⟩]:=⟨E.size,by rw [E.Kn];rfl,E.get⟩
  have S4:=(S3.On (x':=.loop ⟨.exhausted,jump,fi,a.tmps,ps,assign,body,w.heap.size⟩)).tail
  have qB:(Instr.endLoop (w.heap.size+1)).run P w3 = .ok jump { w3 with heap:=w3.heap.setIfInBounds (w.heap.size+1) (.loop ⟨.exhausted,jump,fi,a.tmps,ps,assign,body,w.heap.size⟩) }:=by
   have h1:(st==LoopState.busy)=false:=by cases st <;> first | rfl | exact absurd rfl bB
   simp only [Instr.endLoop,Sem.run_bind,iM S3.vB,Result.andThen_ok,h1,Bool.false_eq_true,if_false]
   simp [qA S3.vB]
  refine ⟨jump,_,qB, ?_⟩
  rcases k _ S4 _ hE with ⟨rfl,hq⟩ | ⟨rfl,hq⟩
  ·exact hq
  ·exact wpIn_ret hq
structure Ou (rc:Loop)(a:Act)(ps:Array Tmp)(assign body:Code):Prop where
 st:rc.state = .ready
 pn:rc.pending=none
 tm:rc.tmps=a.tmps
 pr:rc.params=ps
 as_:rc.assign=assign
 bd:rc.body=body
abbrev y4 (rc:Loop):Loop:={ rc with state:=.done,pending:=some .ret }
abbrev vC (rc:Loop):Loop:={ rc with state:=.busy }
theorem y5 (E:Fr a n e [])(S:St w0 As w Ls){g:Operand}{ps:Array Tmp}{assign body:Code}{f:FuncId}{fn:Func}{cap:List Value}(hg:ev e g=some (.func (.func f) #[] cap.toArray))
    (hf:P.funcs[f]? = some fn) (hb:fn.body.isSome=true) (Xd:(fn.name == "runtime.NumGoroutine")=false)
    (h:∀(rc:Loop) (l r:Nat) (w1:World),Ou rc a ps assign body->St w0 As w1 ([(l,.loop rc)] :: [(r,.deferred (some []))] :: Ls) ->
      CallsIn Fence.wide 0 P f (.func (.yield l) #[] #[] :: cap).toArray w1 fun en w'=>∃v,en = .returned v /\
        ((∃bm,St w0 As w' ([(l,.loop rc)] :: bm)/\∀w2,St w0 As w2 bm->∀a',Fr a' n e [⟨.collected r,#[]⟩]->Q .normal a' w2) \/
         (∃bm,St w0 As w' ([(l,.loop (y4 rc))] :: bm)/\∀w2,St w0 As w2 bm->∀a',Fr a' n e [⟨.collected r,#[]⟩]->Q .ret a' w2))):(Code.rangeFunc g ps assign body).wp P Q a w:=by
  refine KG E S hg hf hb Xd fun fi l r w1 S1 => ?_
  refine CallsIn.mono (h _ l r w1 ⟨rfl,rfl,rfl,rfl,rfl,rfl⟩ S1) ?_
  rintro en w' ⟨v,rfl,⟨bm,S2,k⟩ | ⟨bm,S2,k⟩⟩
  · exact ⟨v,rfl,none,.ready,bm,by decide,S2,fun w2 S3 a' E'=>.inl ⟨rfl,k w2 S3 a' E'⟩⟩
  · exact ⟨v,rfl,some .ret,.done,bm,by decide,S2,fun w2 S3 a' E'=>.inr ⟨rfl,k w2 S3 a' E'⟩⟩
def GK (l:Nat)(w0:World)(As:List Chunk)(rc:Loop)(R:Ending->World->Prop):Exit->Act->World->Prop
 | .normal,_,w=>∃bm,St w0 As w ([(l,.loop (vC rc))] :: bm)/\∀w',St w0 As w' ([(l,.loop rc)] :: bm)->R (.returned (.bool true)) w'
 | .ret,_,w=>∃bm,St w0 As w ([(l,.loop (vC rc))] :: bm)/\∀w',St w0 As w' ([(l,.loop (y4 rc))] :: bm)->R (.returned (.bool false)) w'
 | _,_,_=>False
variable {ops:Array Oper}{rest:List Oper}{v:Value}{d:Nat}
theorem y6 (E:Fr a n e ds){l:Nat}{g:Operand}{xs:List Operand}{ts:Array TypeId}{vs:List Value}{rc:Loop}(hd:o.dst=some d)(hn:d<n)(ho:o.op = .call { callee:=.value g,args:=xs.toArray,argTypes:=ts })(hgv:ev e g=some (.func (.yield l) #[] #[]))
  (hx:IL e xs=some vs) (hl:w.heap[l]? = some (.loop rc)) (bu:vs.length=rc.params.size)
  (hr:RoundIn Fence.wide 0 P l rc.fn ((rc.params.zip vs.toArray).foldl (fun tmps x=>tmps.setIfInBounds x.1 x.2) rc.tmps) rc.assign rc.body w fun en w'=>∃v,en = .returned v/\∀a',Fr a' n ((d,v) :: e) ds->K a' w'):o.wpIn (RF none) 0 P a w K Q :=
 Ot E ho hgv hx hl bu (RoundIn.mono hr fun en w' ⟨v,h1,h2⟩=>⟨v,h1,by rw [hd];exact h2 _ (E.put hn v)⟩)
theorem De (eF:cn o=true)(hr:ab P o a w v w)(k:K (a.put o.dst v) w):o.wpIn (RF ro) 0 P a w K Q:=by
 refine ⟨fun _ _=>trivial, ?_⟩
 have hs:o.semAt (RF ro).round a.eval=execOp a.eval o:=Oper.semAt_eq _ _ _ (fun c hc=>by simp [cn,hc] at eF)
 unfold ab at hr
 rw [hs,hr]
 exact k
theorem bZ (E:Fr a n e ds)(hg:o.guard=none)(eF:cn o=true)(hd:o.dst=some d)(hn:d<n)(hr:ab P o a w v w)
  (k:∀a',Fr a' n ((d,v) :: e) ds->wpListIn (RF ro) 0 P ops Q rest a' w):wpListIn (RF ro) 0 P ops Q (o :: rest) a w:=by
 unfold wpListIn
 rw [if_pos (by simp [Region.wanted,hg])]
 exact De eF hr (by rw [hd];exact k _ (E.put hn v))
theorem eB (E:Fr a n e ds){j t:Nat}{want b:Bool}{oj:Oper}(hg:o.guard=some (j,want))(hj:ops[j]? = some oj)(ht:oj.dst=some t)(hb:lk e t=some (.bool b))(hbw:b=want)
  (eF:cn o=true) (hd:o.dst=some d) (hn:d<n) (hr:ab P o a w v w)
  (k:∀a',Fr a' n ((d,v) :: e) ds->wpListIn (RF ro) 0 P ops Q rest a' w):wpListIn (RF ro) 0 P ops Q (o :: rest) a w:=by
 unfold wpListIn
 rw [kT E hg hj ht hb,hbw]
 simp only [BEq.rfl,if_true]
 exact De eF hr (by rw [hd];exact k _ (E.put hn v))
theorem vE (E:Fr a n e ds){j t:Nat}{want b:Bool}{oj:Oper}(hg:o.guard=some (j,want))(hj:ops[j]? = some oj)(ht:oj.dst=some t)(hb:lk e t=some (.bool b))(hbw:b=want)
  (h:o.wpIn (RF ro) 0 P a w (wpListIn (RF ro) 0 P ops Q rest) Q):wpListIn (RF ro) 0 P ops Q (o :: rest) a w:=by
 unfold wpListIn
 rw [kT E hg hj ht hb,hbw]
 simp only [BEq.rfl,if_true]
 exact h
theorem eR (E:Fr a n e ds){j t:Nat}{want b:Bool}{oj:Oper}(hg:o.guard=some (j,want))(hj:ops[j]? = some oj)(ht:oj.dst=some t)(hb:lk e t=some (.bool b))(hbw:b = !want)
  (hd:o.dst=some d) (hn:d<n)
  (k:∀a',Fr a' n ((d,undef) :: e) ds->wpListIn (RF ro) 0 P ops Q rest a' w):wpListIn (RF ro) 0 P ops Q (o :: rest) a w:=by
 unfold wpListIn
 rw [kT E hg hj ht hb,hbw]
 have:((!want)==want)=false:=by cases want <;> rfl
 simp only [this,Bool.false_eq_true,if_false]
 rw [hd]
 exact ⟨fun _ _=>trivial,k _ (E.put hn undef)⟩
end
section
variable {P:Program}{f:FuncId}{fn:Func}{c:Code}{w w0:World}{As Ls Rs:List Chunk}{R:Ending->World->Prop}{a:Act}{n:Nat}{e:List (Nat×Value)}
theorem GL (n:Nat)(args:Array Value)(e:List (Nat×Value))(hf:P.funcs[f]? = some fn)(hb:fn.body=some c)(hn:fn.ntmps=n)(hs:args.size<=n)
  (he:∀k v,lk e k=some v->args[k]? = some v) (h:∀a,Fr a n e->c.wp P (bodyPostM Fence.wide 0 P fn R) a w):Calls P f args w R :=
 (callsIn_wide (n:=0)).1 (callsIn_of_wp_marks hf hb trivial (wpIn_wide.2 (by subst hn;exact h _ (uX _ args e hs he))))
theorem IS (n:Nat){x0 x1:Value}(hf:P.funcs[f]? = some fn)(hb:fn.body=some c)(hn:fn.ntmps=n)(hs:2<=n)
  (h:∀a,Fr a n [(0,x0),(1,x1)]->c.wpIn (RF none) 0 P (bodyPost P fn R) a w):CallsIn Fence.wide 0 P f #[x0,x1] w R :=
 callsIn_of_wp (F:=Fence.wide) hf hb trivial (by subst hn;exact h _ (uX _ _ _ hs (Tx _ _ (by simp))))
theorem Df {r:Nat}(E:Fr a n e [⟨.collected r,#[]⟩])(S:St w0 As w Ls)(hp:Ls.Perm ([(r,.deferred (some []))] :: Rs))
  (h:∀w',St w0 As w' Rs->∃v,(results fn a.tmps).run P w' = .ok v w'/\R (.returned v) w') (x:Exit) (hx:x = .ret\/x = .normal):bodyPostM Fence.wide 0 P fn R x a w:=by
 have S1:=S.perm hp
 have hg:(getObj r).run P w = .ok (.deferred (some [])) w:=by simp [getObj,Sem.run,S1.vB]
 have hs:(setObj r (.deferred none)).run P w = .ok () { w with heap:=w.heap.setIfInBounds r (.deferred none) }:=by simp [setObj,Sem.run,S1.vB]
 have hk:(Instr.takeDeferred r).run P w = .ok [] { w with heap:=w.heap.setIfInBounds r (.deferred none) }:=by
  simp [Instr.takeDeferred,hg,hs]
 have key:LeavesInM Fence.wide 0 P fn a.tmps R a.defers .returning w:=by
  rw [E.Kn]
  exact ⟨by simp,.inl ⟨r,_,rfl,hk,h _ (S1.On (x':=.deferred none)).tail⟩⟩
 rcases hx with rfl | rfl <;> exact key
end
structure Cx where
 P:Program
 T:aW
 w0:World
 As:List Chunk
 ro:Option Nat
 ds:List Deferred
abbrev Env:=List (Nat×Value)
inductive Kt where
 | top
 | raw (Q:Exit->Act->World->Prop)
 | seq (c:Code) (k:Kt)
 | gB (i:Nat) (k:Kt)
 | Ov (J:Env->List Chunk->Prop) (k:Kt)
structure Fx where
 fn:Func
 n:Nat
 F:Value->List Chunk->Prop
def Fin (X:Cx)(F:Value->List Chunk->Prop):Ending->World->Prop:=fun en w=>∃v Ls,en = .returned v/\St X.w0 X.As w Ls/\F v Ls
def Kt.Q (X:Cx)(f:Fx):Kt->Exit->Act->World->Prop
 | .top=>fun x a w=>X.ds=[]->bodyPost X.P f.fn (Fin X f.F) x a w
 | .raw Q=>Q
 | .seq c k=>Exit.then (fun a w=>c.wpIn (RF X.ro) 0 X.P (k.Q X f) a w) (k.Q X f)
 | .gB i k=>Exit.inBlock i (k.Q X f)
 | .Ov J k=>Exit.then (fun a w=>∃e Ls,Fr a f.n e X.ds/\St X.w0 X.As w Ls/\J e Ls) (k.Q X f)
structure WS (X:Cx)(f:Fx)(c:Code)(k:Kt)(e:Env)(Ls:List Chunk):Prop where
 ap:∀a w,Fr a f.n e X.ds->St X.w0 X.As w Ls->c.wpIn (RF X.ro) 0 X.P (k.Q X f) a w
structure WE (X:Cx)(f:Fx)(x:Exit)(k:Kt)(e:Env)(Ls:List Chunk):Prop where
 ap:∀a w,Fr a f.n e X.ds->St X.w0 X.As w Ls->k.Q X f x a w
structure WO (X:Cx)(f:Fx)(ops:List Oper)(k:Kt)(Ms:List Chunk)(r:aB)(e:Env)(Ls:List Chunk):Prop where
 ap:∀a w,Fr a f.n e X.ds->St X.w0 X.As w Ls->eP X.P ops.toArray (mH Ms) (dA (k.Q X f)) r a w
section
variable {X:Cx}{f:Fx}{c d:Code}{k:Kt}{e e':Env}{Ls Rs:List Chunk}{ops:List Oper}{Ms:List Chunk}{r:aB}{i j:Nat}
theorem WS.seq (h:WS X f c (.seq d k) e Ls):WS X f (.seq c d) k e Ls:=⟨fun a w E S=>wpIn_seq (h.ap a w E S)⟩
theorem WS.gB (h:WS X f c (.gB i k) e Ls):WS X f (.block i c) k e Ls:=⟨fun a w E S=>nj (h.ap a w E S)⟩
theorem WS.skip (h:WE X f .normal k e Ls):WS X f .skip k e Ls:=⟨fun a w E S=>nV (h.ap a w E S)⟩
theorem WS.exit (h:WE X f (.exit i) k e Ls):WS X f (.exit i) k e Ls:=⟨fun a w E S=>Ac (h.ap a w E S)⟩
theorem WE.seq (h:WS X f c k e Ls):WE X f .normal (.seq c k) e Ls:=⟨h.ap⟩
theorem WE.gB (h:WE X f .normal k e Ls):WE X f .normal (.gB i k) e Ls:=⟨h.ap⟩
theorem WE.Ov {J:Env->List Chunk->Prop}(h:J e Ls):WE X f .normal (.Ov J k) e Ls:=⟨fun _ _ E S=>⟨e,Ls,E,S,h⟩⟩
def Kt.pop (i:Nat):Kt->Option Kt
 | .top=>none
 | .raw _=>none
 | .seq _ k=>k.pop i
 | .Ov _ k=>k.pop i
 | .gB j k=>bif Nat.beq i j then some k else k.pop i
theorem Ad {k':Kt}:∀ {k:Kt},k.pop i=some k'->WE X f .normal k' e Ls->WE X f (.exit i) k e Ls
 | .top,h,_=>by cases h
 | .raw _,h,_=>by cases h
 | .seq _ k,h,g=>⟨fun a w E S=>(Ad (k:=k) h g).ap a w E S⟩
 | .Ov _ k,h,g=>⟨fun a w E S=>(Ad (k:=k) h g).ap a w E S⟩
 | .gB j k,h,g=>⟨fun a w E S=>by
  simp only [Kt.pop] at h
  cases hb:Nat.beq i j with
  | true =>
   rw [hb] at h;cases h
   obtain rfl:=Nat.eq_of_beq_eq_true hb
   exact zP (g.ap a w E S)
  | false =>
   rw [hb] at h
   exact Gt (i:=j) (j:=i) (beq_eq_false_iff_ne.2 fun h=>by rw [h,Nat.beq_refl] at hb;cases hb) ((Ad (k:=k) h g).ap a w E S)⟩
theorem WE.exit {k':Kt}(h:k.pop i=some k')(g:WE X f .normal k' e Ls):WE X f (.exit i) k e Ls:=Ad h g
def Kt.bot:Kt->Kt
 | .top=>.top
 | .raw Q=>.raw Q
 | .seq _ k=>k.bot
 | .gB _ k=>k.bot
 | .Ov _ k=>k.bot
theorem vH:∀ {k:Kt},WE X f .ret k.bot e Ls->WE X f .ret k e Ls
 | .top,h=>h
 | .raw _,h=>h
 | .seq _ k,h=>⟨(vH (k:=k) h).ap⟩
 | .Ov _ k,h=>⟨(vH (k:=k) h).ap⟩
 | .gB _ k,h=>⟨(vH (k:=k) h).ap⟩
theorem WS.ret (h:WE X f .ret k.bot e Ls):WS X f .ret k e Ls:=⟨fun a w E S=>GJ ((vH h).ap a w E S)⟩
theorem WE.aej (h:WE X f .ret .top e Ls):WE X f .normal .top e Ls:=⟨h.ap⟩
def GN (e:Env):List ResultVar->Option (List Value)
 | []=>some []
 | .tmp t :: r=>match lk e t,GN e r with
  | some v,some vs=>some (v :: vs)
  | _,_=>none
 | .cell _ _ :: _=>none
def one:List Value->Value
 | [v]=>v
 | vs=>.tuple vs.toArray
def IT (tmps:Array Value):ResultVar->Sem Value
 | .tmp t=>pure (tmps.getD t undef)
 | .cell b t=>do loadVar t (<- asAddr (tmps.getD b undef))
theorem Ae {n:Nat}{a:Act}{w:World}{P:Program}{ds:List Deferred}(E:Fr a n e ds):∀ {rs:List ResultVar} {vs:List Value},GN e rs=some vs->(rs.mapM (IT a.tmps)).run P w = .ok vs w
 | [],vs,h=>by simp only [GN,Option.some.injEq] at h;subst h;simp
 | .cell _ _ :: _,vs,h=>by simp [GN] at h
 | .tmp t :: r,vs,h=>by
  simp only [GN] at h
  split at h
  ·rename_i v us h1 h2
   cases h
   have h3:IT a.tmps (.tmp t)=pure v:=by simp [IT,Array.getD_eq_getD_getElem?,E.get t v h1]
   simp only [mapM_cons,h3,pure_bind,Sem.run_bind,Ae (P:=P) (w:=w) E h2]
   rfl
  ·cases h
theorem lU {a:Act}{w:World}{P:Program}{fn:Func}{vs:List Value}(h:(fn.results.toList.mapM (IT a.tmps)).run P w = .ok vs w):(results fn a.tmps).run P w = .ok (one vs) w:=by
 have e1:results fn a.tmps=(do let vs<-fn.results.mapM (IT a.tmps);pure (if h:vs.size=1 then vs[0] else .tuple vs)):=by
  unfold results
  congr 1
 rw [e1,Array.mapM_eq_mapM_toList,Sem.run_bind]
 rw [show (List.toArray <$> fn.results.toList.mapM (IT a.tmps))=(do let x<-fn.results.toList.mapM (IT a.tmps);pure x.toArray) from (bind_pure_comp _ _).symm,Sem.run_bind,h]
 match vs with
 | []=>rfl
 | [v]=>rfl
 | v :: u :: r=>simp [one,Result.andThen]
theorem WE.res {vs:List Value}{v:Value}(h:GN e f.fn.results.toList=some vs)(hv:one vs=v)(g:f.F v Ls):WE X f .ret .top e Ls:=⟨fun _ _ E S hd =>
 ⟨hd ▸ E.Kn,v,hv ▸ lU (Ae E h),v,Ls,rfl,S,g⟩⟩
theorem WS.cond {x:Operand}{b:Bool}{p q:Prop}(hc:ev e x=some (.bool b))[n1:Ku (b=true) p][n2:Ku (b=false) q](h1:p->WS X f c k e Ls)(h2:q->WS X f d k e Ls):WS X f (.cond x c d) k e Ls :=
 ⟨fun a w E S=>wpIn_cond_split (E.eval hc) (fun h=>(h1 (n1.nrm h)).ap a w E S) (fun h=>(h2 (n2.nrm h)).ap a w E S)⟩
theorem WS.yes {x:Operand}{b:Bool}(hc:ev e x=some (.bool b))(hb:b=true)(h1:WS X f c k e Ls):WS X f (.cond x c d) k e Ls:=⟨fun a w E S=>qz E hc hb (h1.ap a w E S)⟩
theorem WS.no {x:Operand}{b:Bool}(hc:ev e x=some (.bool b))(hb:b=false)(h1:WS X f d k e Ls):WS X f (.cond x c d) k e Ls:=⟨fun a w E S=>kX E hc hb (h1.ap a w E S)⟩
def YY:Nat->Nat->aB
 | _,0=>.nil
 | i,m+1=>.cons (i,3) (YY (i+1) m)
theorem vJ {P:Program}{o:Array Oper}{S:World->Prop}{Q:Exit->Act->World->Prop}:∀(l:List Oper) (i:Nat) (a:Act) (w:World),(∀j,l[j]? = o[i+j]?)->eP P o S (dA Q) (YY i l.length) a w->wpList P o (dA Q) l a w
 | [],_,_,_,_,h=>h
 | x :: l,i,a,w,hl,h=>by
  obtain ⟨u,hu,h⟩:=h
  have h0:=hl 0
  rw [Nat.add_zero,hu] at h0
  cases h0
  have jI:∀j,l[j]? = o[i+1+j]?:=fun j=>by have:=hl (j+1);rw [getElem?_cons_succ] at this;rw [this,Nat.add_assoc,Nat.add_comm 1]
  unfold wpList
  rcases h with ⟨hw,h⟩ | ⟨hw,h⟩
  ·rw [if_pos hw]
   exact .inl (Oper.wp_mono (fun _ _ h'=>vJ l (i+1) _ _ jI h') h)
  ·rw [if_neg (by rw [hw];decide)]
   exact vJ l (i+1) _ _ jI h
theorem WS.region (hd:ops.all cn=true)(h:WO X f ops k [] (YY 0 ops.length) e Ls){id:Nat}:WS X f (.region id ops.toArray false) k e Ls:=⟨fun a w E S =>
 du hd (vJ ops 0 a w (fun j=>by simp) (h.ap a w E S))⟩
theorem WS.drawn {id:Nat}(hm:X.P.follows .mixedOrders=true)(ord:aB)(hd:ops.all cn=true)(hB:lQ ops.toArray ord=true)(Ms:List Chunk)(hM:∀C∈Ms,C∈Ls)(h:WO X f ops k Ms ord e Ls):WS X f (.region id ops.toArray true) k e Ls :=
 ⟨fun a w E S=>Ab hd ord (mH Ms) hm hB (S.drew.kE.sub hM) (h.ap a _ E S.drew)⟩
theorem WO.nil (h:WE X f .normal k e Ls):WO X f ops k Ms .nil e Ls:=⟨fun a w E S=>h.ap a w E S⟩
def gd (ops:List Oper)(e:Env)(o:Oper):Option Bool :=
 match o.guard with
 | none=>some true
 | some (j,want)=>match ops[j]? with
  | none=>none
  | some oj=>match oj.dst with
   | none=>none
   | some t=>match lk e t with
    | some (.bool true)=>some want
    | some (.bool false)=>some (!want)
    | some (.tuple ⟨[]⟩)=>some false
    | _=>none
theorem Ow {a:Act}{n:Nat}{o:Oper}{b:Bool}{ds:List Deferred}(E:Fr a n e ds)(h:gd ops e o=some b):Region.wanted o (yielded ops.toArray a.tmps)=b:=by
 unfold gd at h
 split at h
 ·rename_i hg;cases h;simp [Region.wanted,hg]
 ·rename_i j want hg
  split at h
  ·cases h
  ·rename_i oj hj
   split at h
   ·cases h
   ·rename_i t ht
    have Af:ops.toArray[j]? = some oj:=by simpa using hj
    split at h
    ·rename_i hb;cases h;rw [kT E hg Af ht hb];cases b <;> rfl
    ·rename_i hb;cases h;rw [kT E hg Af ht hb];cases want <;> rfl
    ·rename_i hb;cases h;exact zQ E hg Af ht hb
    ·cases h
def Ag (κ:Nat)(Ms Ls:List Chunk):List Chunk:=match κ with
 | 0=>Ms
 | 2=>[]
 | _=>Ls
def cZ (κ:Nat)(Ms Ls:List Chunk):Prop:=κ=1->∀C∈Ms,C∈Ls
def KO (X:Cx)(f:Fx)(ops:List Oper)(k:Kt)(Ms:List Chunk)(κ:Nat)(r:aB):Act->World->Prop:=fun a w=>(κ=1->mH Ms w)/\eP X.P ops.toArray (mH Ms) (dA (k.Q X f)) r a w
theorem KO.mk {κ n:Nat}{a:Act}{w:World}(hn:n=f.n)(hk:cZ κ Ms Ls)(h:WO X f ops k Ms r e Ls)(E:Fr a n e X.ds)(S:St X.w0 X.As w Ls):KO X f ops k Ms κ r a w:=⟨fun h=>S.kE.sub (hk h),h.ap a w (hn ▸ E) S⟩
variable {o:Oper}{κ:Nat}{v:Value}{t:Nat}
theorem WO.read (hi:ops[i]? = some o)(hg:gd ops e o=some true)(hd:o.dst=some t)(hn:Nat.blt t f.n=true)(hκ:Nat.beq κ 1=false)(hκ3:Nat.ble κ 3=true)(hr:∀a w,Fr a f.n e X.ds->mH (Ag κ Ms Ls) w->ab X.P o a w v w)
  (h:WO X f ops k Ms r ((t,v) :: e) Ls):WO X f ops k Ms (.cons (i,κ) r) e Ls:=.mk fun a w E S=>by
 have jQ:ops.toArray[i]? = some o:=by simpa using hi
 have hw:=Ow E hg
 have IU:t<f.n:=Nat.le_of_ble_eq_true hn
 match κ,hκ,hκ3,hr with
 | 0,_,_,hr=>exact ⟨o,jQ,.inl ⟨hw,v,fun w' S'=>hr a w' E S',by rw [hd];exact h.ap _ _ (E.put IU v) S⟩⟩
 | 1,hκ,_,_=>cases hκ
 | 2,_,_,hr=>exact ⟨o,jQ,.inl ⟨hw,v,fun w'=>hr a w' E (fun C hC=>by cases hC),by rw [hd];exact h.ap _ _ (E.put IU v) S⟩⟩
 | 3,_,_,hr=>exact ⟨o,jQ,.inl ⟨hw,(hr a w E S.kE).wp (by rw [hd];exact h.ap _ _ (E.put IU v) S)⟩⟩
 | m+4,_,hκ3,_=>simp at hκ3
theorem WO.not (hi:ops[i]? = some o)(hg:gd ops e o=some false)(hd:o.dst=some t)(hn:Nat.blt t f.n=true)(hκ3:Nat.ble κ 3=true)(hk:cZ κ Ms Ls)
  (h:WO X f ops k Ms r ((t,undef) :: e) Ls):WO X f ops k Ms (.cons (i,κ) r) e Ls:=.mk fun a w E S=>by
 have jQ:ops.toArray[i]? = some o:=by simpa using hi
 have hw:=Ow E hg
 have IU:t<f.n:=Nat.le_of_ble_eq_true hn
 have hh:=h.ap _ _ (E.put IU undef) S
 rw [<-hd] at hh
 match κ,hκ3,hk with
 | 0,_,_=>exact ⟨o,jQ,.inr ⟨hw,hh⟩⟩
 | 1,_,hk=>exact ⟨o,jQ,.inr ⟨hw,S.kE.sub (hk rfl),hh⟩⟩
 | 2,_,_=>exact ⟨o,jQ,.inr ⟨hw,hh⟩⟩
 | 3,_,_=>exact ⟨o,jQ,.inr ⟨hw,hh⟩⟩
 | m+4,hκ3,_=>simp at hκ3
theorem WO.act (hi:ops[i]? = some o)(hg:gd ops e o=some true)(hκ:(Nat.beq κ 1||Nat.beq κ 3)=true)(h:∀a w,Fr a f.n e X.ds->St X.w0 X.As w Ls->o.wp X.P a w (KO X f ops k Ms κ r) (dA (k.Q X f))) :
  WO X f ops k Ms (.cons (i,κ) r) e Ls:=.mk fun a w E S=>by
 have jQ:ops.toArray[i]? = some o:=by simpa using hi
 have hw:=Ow E hg
 have h1:=h a w E S
 match κ,hκ,h1 with
 | 0,hκ,_=>cases hκ
 | 1,_,h1=>exact ⟨o,jQ,.inl ⟨hw,Oper.wp_mono (fun _ _ h'=>⟨h'.1 rfl,h'.2⟩) h1⟩⟩
 | 2,hκ,_=>cases hκ
 | 3,_,h1=>exact ⟨o,jQ,.inl ⟨hw,Oper.wp_mono (fun _ _ h'=>h'.2) h1⟩⟩
 | m+4,hκ,_=>simp at hκ
theorem Dg {b:Bool}{j:Nat}{want:Bool}{oj:Oper}{p q:Prop}(hi:ops[i]? = some o)(hg:o.guard=some (j,want))(hj:ops[j]? = some oj)(ht:oj.dst=some t)(hb:lk e t=some (.bool b))[n1:Ku (b=true) p][n2:Ku (b=false) q]
  (h1:p->WO X f ops k Ms (.cons (i,κ) r) ((t,.bool true) :: e) Ls) (h2:q->WO X f ops k Ms (.cons (i,κ) r) ((t,.bool false) :: e) Ls):WO X f ops k Ms (.cons (i,κ) r) e Ls:=.mk fun a w E S=>by
 have put:∀c:Bool,b=c->Fr a f.n ((t,.bool c) :: e) X.ds:=fun c hc=>by
  subst hc
  refine ⟨E.size,E.Kn,fun k u h => ?_⟩
  simp only [lk] at h
  cases uq:Nat.beq t k with
  | true=>rw [uq,cond_true] at h;cases h;rw [<-Nat.eq_of_beq_eq_true uq];exact E.get t _ hb
  | false=>rw [uq,cond_false] at h;exact E.get k u h
 cases b
 ·exact (h2 (n2.nrm rfl)).ap a w (put _ rfl) S
 ·exact (h1 (n1.nrm rfl)).ap a w (put _ rfl) S
theorem Ox {b c:Bool}{j:Nat}{want:Bool}{oj:Oper}(hi:ops[i]? = some o)(hg:o.guard=some (j,want))(hj:ops[j]? = some oj)(ht:oj.dst=some t)(hb:lk e t=some (.bool b))(hc:b=c)
  (h:WO X f ops k Ms (.cons (i,κ) r) ((t,.bool c) :: e) Ls):WO X f ops k Ms (.cons (i,κ) r) e Ls :=
 Dg (p:=b=true) (q:=b=false) hi hg hj ht hb (fun h1=>by rw [<-hc,h1] at h;exact h) (fun h1=>by rw [<-hc,h1] at h;exact h)
end
def keq (a b:IntKind):Bool:=match a,b with
 | .i8,.i8 | .i16,.i16 | .i32,.i32 | .i64,.i64 | .u8,.u8 | .u16,.u16 | .u32,.u32 | .u64,.u64=>true
 | _,_=>false
theorem GO {a b:IntKind}(h:keq a b=true):a=b:=by cases a <;> cases b <;> first | rfl | cases h
def abx (op:BinOp)(p q:Int):Option Value:=match op with
 | .eql=>some (.bool (p==q))
 | .neq=>some (.bool (p != q))
 | .lss=>some (.bool (decide (p<q)))
 | .leq=>some (.bool (decide (p<=q)))
 | .gtr=>some (.bool (decide (q<p)))
 | .geq=>some (.bool (decide (q<=p)))
 | _=>none
def eqV (op:BinOp)(b:Bool):Option Value:=match op with
 | .eql=>some (.bool b)
 | .neq=>some (.bool (!b))
 | _=>none
def isN:Option Addr->Bool
 | none=>true
 | some _=>false
def force {β:Type}:List Value->(List Value->Option β)->Option β
 | [],k=>k []
 | v :: l,k=>force l fun l'=>k (v :: l')
theorem force_eq {β:Type}:∀(l:List Value) (k:List Value->Option β),force l k=k l
 | [],_=>rfl
 | v :: l,k=>by rw [force,force_eq l]
def YZ (T:aW)(op:BinOp)(t:TypeId):Value->Value->Option Value
 | .int k p,.int k' q=>bif keq k k' then abx op p q else none
 | .bool b,.bool c=>match T.kW t,op with
  | some .bool,.eql=>some (.bool (b==c))
  | some .bool,.neq=>some (.bool (b != c))
  | _,_=>none
 | .string ⟨⟨b⟩⟩,.string ⟨⟨c⟩⟩=>eqV op (decide (b=c))
 | .pointer ad,.pointer none=>match T.kW t with
  | some (.pointer _)=>eqV op (isN ad)
  | _=>none
 | .slice ad _ _,.slice none 0 0=>match T.kW t with
  | some (.slice _)=>eqV op (isN ad)
  | _=>none
 | _,_=>none
def aby (T:aW)(t:TypeId):Value->Option Value
 | .slice _ l _=>match T.kW t with
  | some (.slice _)=>some (.int .i64 l)
  | _=>none
 | .string ⟨⟨b⟩⟩=>match T.kW t with
  | some .string=>some (.int .i64 b.length)
  | _=>none
 | _=>none
def Y0 (T:aW)(e:Env)(b:Builtin)(xs:List Operand)(ts:List TypeId):Option Value :=
 match b,xs,ts with
 | .len,[x],[t]=>match ev e x with
  | some v=>aby T t v
  | _=>none
 | .cap,[x],[t]=>match ev e x,T.kW t with
  | some (.slice _ _ c),some (.slice _)=>some (.int .i64 c)
  | _,_=>none
 | .min,[x,y],_=>match ev e x,ev e y with
  | some (.int k p),some (.int _ q)=>some (.int k (min p q))
  | _,_=>none
 | .max,[x,y],_=>match ev e x,ev e y with
  | some (.int k p),some (.int _ q)=>some (.int k (max p q))
  | _,_=>none
 | _,_,_=>none
def abz (T:aW)(s:TypeId)(f:Nat)(cs:List Value):Option Value :=
 match T.kW s with
 | some (.struct fs)=>match fs[f]? with
  | some fd=>bif T.Xf fd.type then cs[fd.offset]? else none
  | _=>none
 | _=>none
def pe (T:aW)(e:Env)(o:Op):Option Value :=
 match o with
 | .move x=>ev e x
 | .assign x=>ev e x
 | .pick c a b=>match ev e c with
  | some (.bool true)=>ev e a
  | some (.bool false)=>ev e b
  | _=>none
 | .nilCheck x=>match ev e x with
  | some (.pointer (some ad))=>some (.pointer (some ad))
  | _=>none
 | .fieldAddr s x f=>match ev e x with
  | some (.pointer (some ⟨b,0,none⟩))=>match T.fld s f with
   | some q=>some (.pointer (some ⟨b,q,none⟩))
   | none=>none
  | _=>none
 | .extract x i=>match ev e x with
  | some (.tuple ⟨l⟩)=>l[i]?
  | _=>none
 | .binOp op t x y _=>match ev e x with
  | some v=>match ev e y with
   | some u=>YZ T op t v u
   | none=>none
  | none=>none
 | .unOp .not _ x=>match ev e x with
  | some (.bool b)=>some (.bool (!b))
  | _=>none
 | .makeFunc (.func g) ⟨[]⟩ ⟨cs⟩=>match IL e cs with
  | some vs=>force vs fun vs=>some (.func (.func g) #[] vs.toArray)
  | none=>none
 | .field s x f=>match ev e x with
  | some (.agg ⟨cs⟩)=>abz T s f cs
  | _=>none
 | .build t ⟨ps⟩=>match qp e ps with
  | some qs=>match T.built t qs with
   | some cs=>force cs fun cs=>some (.agg cs.toArray)
   | none=>none
  | none=>none
 | .call ⟨.builtin b,⟨xs⟩,⟨ts⟩⟩=>Y0 T e b xs ts
 | _=>none
section
variable {P:Program}{T:aW}{a:Act}{w:World}{o:Oper}{n:Nat}{e:Env}{ds:List Deferred}{x y:Operand}{v u r:Value}
theorem GP (E:Fr a n e ds){op:BinOp}{t t':TypeId}{b:Bool}(ho:o.op = .binOp op t x y t')(hr:eqV op b=some r)(h1:op = .eql->ab P o a w (.bool b) w)(h2:op = .neq->ab P o a w (.bool !b) w):ab P o a w r w:=by
 have _:=E
 unfold eqV at hr
 split at hr
 ·cases hr;exact h1 rfl
 ·cases hr;exact h2 rfl
 ·cases hr
theorem Ah (ad:Option Addr):isN ad=ad.isNone:=by cases ad <;> rfl
theorem TL (hT:T.Ok P)(E:Fr a n e ds){op:BinOp}{t t':TypeId}(ho:o.op = .binOp op t x y t')(hx:ev e x=some v)(hy:ev e y=some u)(h:YZ T op t v u=some r):ab P o a w r w:=by
 unfold YZ at h
 split at h
 ·rename_i k p k' q
  cases hk:keq k k' with
  | false=>rw [hk] at h;cases h
  | true =>
   rw [hk,cond_true] at h
   obtain rfl:=GO hk
   unfold abx at h
   split at h <;> cases h
   ·exact YG E ho hx hy
   ·exact Gv E ho hx hy
   ·exact NX E ho hx hy
   ·exact YH E ho hx hy
   ·exact YI E ho hx hy
   ·exact YJ E ho hx hy
 ·split at h <;> cases h
  ·rename_i ht;exact CJ E ho hx hy (aW.aU hT ht)
  ·rename_i ht;exact nc E ho hx hy (aW.aU hT ht)
 ·exact GP E ho h (fun e1=>by subst e1;exact yi E ho hx hy) (fun e1=>by subst e1;exact kF E ho hx hy)
 ·split at h
  ·rename_i ht
   exact GP E ho h (fun e1=>by subst e1;rw [Ah];exact u6 E ho hx hy (aW.aU hT ht)) (fun e1=>by subst e1;rw [Ah];exact jP E ho hx hy (aW.aU hT ht))
  ·cases h
 ·split at h
  ·rename_i ht
   exact GP E ho h (fun e1=>by subst e1;rw [Ah];exact r8 E ho hx hy (aW.aU hT ht)) (fun e1=>by subst e1;rw [Ah];exact sa E ho hx hy (aW.aU hT ht))
  ·cases h
 ·cases h
theorem TM (hT:T.Ok P)(E:Fr a n e ds){b:Builtin}{xs:List Operand}{ts:List TypeId}(ho:o.op = .call ⟨.builtin b,⟨xs⟩,⟨ts⟩⟩)(h:Y0 T e b xs ts=some r):ab P o a w r w:=by
 unfold Y0 at h
 split at h
 ·split at h
  ·rename_i x t v hv
   unfold aby at h
   split at h
   ·split at h
    ·rename_i ht;cases h;exact NW E ho hv (aW.aU hT ht)
    ·cases h
   ·split at h
    ·rename_i ht;cases h;exact vb E ho hv (aW.aU hT ht)
    ·cases h
   ·cases h
  ·cases h
 ·split at h
  ·rename_i hv ht;cases h;exact Yv E ho hv (aW.aU hT ht)
  ·cases h
 ·split at h
  ·rename_i h1 h2;cases h;exact Yx E ho h1 h2
  ·cases h
 ·split at h
  ·rename_i h1 h2;cases h;exact Yw E ho h1 h2
  ·cases h
 ·cases h
theorem abA (hT:T.Ok P)(E:Fr a n e ds){op:Op}(ho:o.op=op)(h:pe T e op=some r):ab P o a w r w:=by
 unfold pe at h
 split at h
 ·exact ek E ho h
 ·exact jF E ho h
 ·split at h
  ·rename_i hc;exact tf E ho hc h
  ·rename_i hc;exact u3 E ho hc h
  ·cases h
 ·split at h
  ·rename_i hx;cases h;exact tg E ho hx
  ·cases h
 ·split at h
  ·split at h
   ·rename_i hx _ q hq;cases h;exact pc E ho hx (aW.Oj hT hq)
   ·cases h
  ·cases h
 ·split at h
  ·rename_i hx;exact lS E ho hx h
  ·cases h
 ·split at h
  ·split at h
   ·rename_i hx _ _ hy;exact TL hT E ho hx hy h
   ·cases h
  ·cases h
 ·split at h
  ·rename_i hx;cases h;exact u4 E ho hx
  ·cases h
 ·split at h
  ·rename_i hx;rw [force_eq] at h;cases h;exact CK E ho hx ⟨_,rfl⟩
  ·cases h
 ·split at h
  ·rename_i hx
   unfold abz at h
   split at h
   ·split at h
    ·rename_i hs _ fd hf
     cases hc:T.Xf fd.type with
     | false=>rw [hc] at h;cases h
     | true=>rw [hc,cond_true] at h;exact NY E ho hx (aW.aU hT hs) hf (aW.vy hT hc) rfl (by simpa using h)
    ·cases h
   ·cases h
  ·cases h
 ·split at h
  ·rename_i hq
   split at h
   ·rename_i hb;rw [force_eq] at h;cases h;exact N9 E ho hq (aW.Ol hT hb)
   ·cases h
  ·cases h
 ·exact TM hT E ho h
 ·cases h
end
def go1 (T:aW)(n:Nat)(ops:List Oper)(i:Nat)(e:Env):Option (Nat×Value) :=
 match ops[i]? with
 | none=>none
 | some o=>match o.dst with
  | none=>none
  | some t=>match gd ops e o,Nat.blt t n with
   | some true,true=>match pe T e o.op with
    | some v=>some (t,v)
    | none=>none
   | some false,true=>some (t,undef)
   | _,_=>none
def go0 (T:aW)(n:Nat)(ops:List Oper)(i:Nat)(e:Env):Option (Nat×Value) :=
 match ops[i]? with
 | none=>none
 | some o=>match o.guard with
  | some _=>none
  | none=>go1 T n ops i e
theorem Oy {T:aW}{n:Nat}{ops:List Oper}{i:Nat}{e:Env}{x:Nat×Value}(h:go0 T n ops i e=some x):go1 T n ops i e=some x:=by
 unfold go0 at h
 split at h
 ·cases h
 ·split at h
  ·cases h
  ·exact h
def calm:Nat->Bool
 | 0 | 2 | 3=>true
 | _=>false
def run (T:aW)(n:Nat)(ops:List Oper):aB->Env->aB×Env
 | .cons (i,κ) r,e=>match calm κ with
  | true=>match go0 T n ops i e with
   | some (t,v)=>run T n ops r ((t,v) :: e)
   | none=>(.cons (i,κ) r,e)
  | false=>(.cons (i,κ) r,e)
 | r,e=>(r,e)
def abB (T:aW)(n:Nat)(ops:List Oper)(r:aB)(e:Env):Option (aB×Env) :=
 match r with
 | .cons (i,κ) r=>match calm κ with
  | true=>match go0 T n ops i e with
   | some (t,v)=>some (run T n ops r ((t,v) :: e))
   | none=>none
  | false=>none
 | _=>none
section
variable {X:Cx}{f:Fx}{k:Kt}{e e':Env}{Ls:List Chunk}{ops:List Oper}{Ms:List Chunk}{r r':aB}{i κ:Nat}
theorem IV (h:calm κ=true):Nat.beq κ 1=false/\Nat.ble κ 3=true:=by
 unfold calm at h
 split at h <;> first | exact ⟨rfl,rfl⟩ | cases h
theorem GQ (hT:X.T.Ok X.P){t:Nat}{v:Value}(hκ:calm κ=true)(h:go1 X.T f.n ops i e=some (t,v))(g:WO X f ops k Ms r ((t,v) :: e) Ls):WO X f ops k Ms (.cons (i,κ) r) e Ls:=by
 obtain ⟨h1,h2⟩:=IV hκ
 unfold go1 at h
 split at h
 ·cases h
 ·rename_i o ho
  split at h
  ·cases h
  ·rename_i t' ht
   split at h
   ·rename_i hg hn
    split at h
    ·rename_i v' hv
     cases h
     exact .read ho hg ht hn h1 h2 (fun a w E _=>abA hT E rfl hv) g
    ·cases h
   ·rename_i hg hn
    cases h
    exact .not ho hg ht hn h2 (fun h'=>by subst h';cases h1) g
   ·cases h
theorem Oz (hT:X.T.Ok X.P):∀ {r:aB} {e:Env},run X.T f.n ops r e=(r',e')->WO X f ops k Ms r' e' Ls->WO X f ops k Ms r e Ls
 | .nil,e,h,g=>by simp only [run,Prod.mk.injEq] at h;obtain ⟨rfl,rfl⟩:=h;exact g
 | .fork ..,e,h,g=>by simp only [run,Prod.mk.injEq] at h;obtain ⟨rfl,rfl⟩:=h;exact g
 | .yQ ..,e,h,g=>by simp only [run,Prod.mk.injEq] at h;obtain ⟨rfl,rfl⟩:=h;exact g
 | .cons (i,κ) r,e,h,g=>by
  simp only [run] at h
  split at h
  ·rename_i hκ
   split at h
   ·rename_i hv;exact GQ hT hκ (Oy hv) (Oz hT (r:=r) h g)
   ·simp only [Prod.mk.injEq] at h;obtain ⟨rfl,rfl⟩:=h;exact g
  ·simp only [Prod.mk.injEq] at h;obtain ⟨rfl,rfl⟩:=h;exact g
theorem WO.run (hT:X.T.Ok X.P)(h:abB X.T f.n ops r e=some (r',e'))(g:WO X f ops k Ms r' e' Ls):WO X f ops k Ms r e Ls:=by
 unfold abB at h
 split at h
 ·split at h
  ·rename_i hκ
   split at h
   ·rename_i hv;simp only [Option.some.injEq] at h;exact GQ hT hκ (Oy hv) (Oz hT h g)
   ·cases h
  ·cases h
 ·cases h
theorem WO.one {t:Nat}{v:Value}(hT:X.T.Ok X.P)(hκ:calm κ=true)(h:go1 X.T f.n ops i e=some (t,v))(g:WO X f ops k Ms r ((t,v) :: e) Ls):WO X f ops k Ms (.cons (i,κ) r) e Ls:=GQ hT hκ h g
end
def dec (n:Nat)(ops:List Oper)(r:aB)(e:Env):Option (Nat×Option Nat×Op×aB) :=
 match r with
 | .cons (i,κ) r=>match ops[i]? with
  | some o=>match gd ops e o with
   | some true=>match o.dst with
    | none=>some (κ,none,o.op,r)
    | some t=>match Nat.blt t n with
     | true=>some (κ,some t,o.op,r)
     | false=>none
   | _=>none
  | none=>none
 | _=>none
def dR:Nat->Bool
 | 1 | 3=>true
 | _=>false
section
variable {X:Cx}{f:Fx}{k:Kt}{e e':Env}{Ls Rs:List Chunk}{ops:List Oper}{Ms:List Chunk}{r r':aB}{κ d:Nat}{op:Op}{v:Value}
theorem Y1 {dst:Option Nat}(h:dec f.n ops r e=some (κ,dst,op,r')):∃i o,r = .cons (i,κ) r'/\ops[i]? = some o/\gd ops e o=some true/\o.dst=dst/\o.op=op/\∀t,dst=some t->t<f.n:=by
 unfold dec at h
 split at h
 ·rename_i i κ' r0
  split at h
  ·rename_i o ho
   split at h
   ·rename_i hg
    split at h
    ·rename_i hd;cases h;exact ⟨i,o,rfl,ho,hg,hd,rfl,fun t ht=>by cases ht⟩
    ·rename_i t hd
     split at h
     ·rename_i hn;cases h;exact ⟨i,o,rfl,ho,hg,hd,rfl,fun t' ht=>by cases ht;exact Nat.le_of_ble_eq_true hn⟩
     ·cases h
   ·cases h
  ·cases h
 ·cases h
structure WD (X:Cx)(f:Fx)(ops:List Oper)(k:Kt)(Ms:List Chunk)(κ:Nat)(dst:Option Nat)(op:Op)(r:aB)(e:Env)(Ls:List Chunk):Prop where
 ap:∀i o,ops[i]? = some o->gd ops e o=some true->o.dst=dst->o.op=op->(∀t,dst=some t->t<f.n)->WO X f ops k Ms (.cons (i,κ) r) e Ls
theorem WO.dec {dst:Option Nat}(h:dec f.n ops r e=some (κ,dst,op,r'))(g:WD X f ops k Ms κ dst op r' e Ls):WO X f ops k Ms r e Ls:=by
 obtain ⟨i,o,rfl,ho,hg,hd,mI,hn⟩:=Y1 h
 exact g.ap i o ho hg hd mI hn
theorem WD.rd (hκ:calm κ=true)(hr:∀(o:Oper) a w,o.op=op->Fr a f.n e X.ds->mH (Ag κ Ms Ls) w->ab X.P o a w v w)
  (g:WO X f ops k Ms r' ((d,v) :: e) Ls):WD X f ops k Ms κ (some d) op r' e Ls:=⟨fun i o ho hg hd mI hn=>by
 obtain ⟨h1,h2⟩:=IV hκ
 exact .read ho hg hd (Nat.ble_eq_true_of_le (hn d rfl)) h1 h2 (fun a w E S=>hr o a w mI E S) g⟩
theorem WD.ac {dst:Option Nat}(hκ:dR κ=true)
  (hr:∀(o:Oper) a w,o.op=op->o.dst=dst->(∀t,dst=some t->t<f.n)->Fr a f.n e X.ds->St X.w0 X.As w Ls->o.wp X.P a w (KO X f ops k Ms κ r') (dA (k.Q X f))):WD X f ops k Ms κ dst op r' e Ls:=⟨fun i o ho hg hd mI hn=>by
 have h1:(Nat.beq κ 1||Nat.beq κ 3)=true:=by
  unfold dR at hκ
  split at hκ <;> first | rfl | cases hκ
 exact .act ho hg h1 fun a w E S=>hr o a w mI hd hn E S⟩
section
variable {t T:TypeId}{x y:Operand}{b j:Nat}{l:List Value}
theorem WD.load (hκ:calm κ=true)(hx:ev e x=some (.pointer (some ⟨b,j,none⟩)))(hT:X.T.Ok X.P)(ht:X.T.Xf t=true){fr:Nat×Nat}(hm:[(b,.cells l.toArray T fr)]∈Ag κ Ms Ls)(hv:l[j]? = some v)
  (g:WO X f ops k Ms r' ((d,v) :: e) Ls):WD X f ops k Ms κ (some d) (.load t x) r' e Ls:=.rd hκ (fun _ _ _ ho E S=>TA E ho hx (aW.vy hT ht) (S.one hm) hv) g
theorem WD.abC {C:Chunk}{s m c i:Nat}{xs:List Value}{off:Nat}(hκ:calm κ=true)(hx:ev e x=some (.pointer (some ⟨b,off+i,none⟩)))(hT:X.T.Ok X.P)(ht:X.T.Xf t=true)(hR:Rd C s (.slice (some ⟨b,off,none⟩) m c) m xs)(hm:C∈Ag κ Ms Ls)(hv:xs[i]? = some v)
  (g:WO X f ops k Ms r' ((d,v) :: e) Ls):WD X f ops k Ms κ (some d) (.load t x) r' e Ls :=
 .rd hκ (fun _ _ _ ho E S=>kV E ho hx (aW.vy hT ht) (hR.cells (S.at hm) rfl i v hv)) g
theorem WD.OA {C:Chunk}{s m c i q:Nat}{xs vs:List Value}{off:Nat}(hκ:calm κ=true)(hx:ev e x=some (.pointer (some ⟨b,off+i,none⟩)))(hT:X.T.Ok X.P)(ht:X.T.agg t=some q)(hR:Rd C s (.slice (some ⟨b,off,none⟩) m c) m xs)(hm:C∈Ag κ Ms Ls)(hl:vs.length=q)(hv:∀j u,vs[j]? = some u->xs[i+j]? = some u)
  (g:WO X f ops k Ms r' ((d,.agg vs.toArray) :: e) Ls):WD X f ops k Ms κ (some d) (.load t x) r' e Ls :=
 .rd hκ (fun _ _ _ ho E S=>zU E ho hx (aW.vz hT ht) hl (fun j u hu=>by have:=hR.cells (S.at hm) rfl (i+j) u (hv j u hu);rw [<-Nat.add_assoc] at this;exact this)) g
theorem WD.Y2 {C:Chunk}{s m c q:Nat}{xs:List Value}{off:Nat}(hκ:calm κ=true)(hx:ev e x=some (.pointer (some ⟨b,off,none⟩)))(hT:X.T.Ok X.P)(ht:X.T.agg t=some q)(hR:Rd C s (.slice (some ⟨b,off,none⟩) m c) m xs)(hm:C∈Ag κ Ms Ls)(hl:xs.length=q)
  (g:WO X f ops k Ms r' ((d,.agg xs.toArray) :: e) Ls):WD X f ops k Ms κ (some d) (.load t x) r' e Ls :=
 .OA (i:=0) hκ (by rw [Nat.add_zero];exact hx) hT ht hR hm hl (fun j u h=>by rw [Nat.zero_add];exact h) g
def sub:Nat->Nat->List Value->Option (List Value)
 | _,0,_=>some []
 | 0,_+1,[]=>none
 | 0,m+1,v :: l=>match sub 0 m l with
  | some r=>some (v :: r)
  | none=>none
 | _+1,_+1,[]=>none
 | j+1,m+1,_ :: l=>sub j (m+1) l
theorem sq:∀ {j m:Nat} {l vs:List Value},sub j m l=some vs->vs.length=m/\∀i u,vs[i]? = some u->l[j+i]? = some u
 | j,0,l,vs,h=>by simp only [sub,Option.some.injEq] at h;subst h;simp
 | 0,m+1,[],vs,h=>by simp [sub] at h
 | 0,m+1,v :: l,vs,h=>by
  simp only [sub] at h
  split at h
  ·rename_i r hr
   cases h
   obtain ⟨h1,h2⟩:=sq hr
   refine ⟨by simp [h1],fun i u hu => ?_⟩
   cases i with
   | zero=>simpa using hu
   | succ i=>have:=h2 i u (by simpa using hu);rw [Nat.zero_add] at this ⊢;simpa using this
  ·cases h
 | j+1,m+1,[],vs,h=>by simp [sub] at h
 | j+1,m+1,v :: l,vs,h=>by
  simp only [sub] at h
  obtain ⟨h1,h2⟩:=sq h
  exact ⟨h1,fun i u hu=>by rw [show j+1+i=(j+i)+1 by omega,getElem?_cons_succ];exact h2 i u hu⟩
theorem WD.abD {q:Nat}{vs:List Value}(hκ:calm κ=true)(hx:ev e x=some (.pointer (some ⟨b,j,none⟩)))(hT:X.T.Ok X.P)(ht:X.T.agg t=some q){fr:Nat×Nat}(hm:[(b,.cells l.toArray T fr)]∈Ag κ Ms Ls)(hv:sub j q l=some vs)
  (g:WO X f ops k Ms r' ((d,.agg vs.toArray) :: e) Ls):WD X f ops k Ms κ (some d) (.load t x) r' e Ls :=
 .rd hκ (fun _ _ _ ho E S=>th E ho hx (aW.vz hT ht) (S.one hm) (sq hv).1 fun i u hu=>by simpa using (sq hv).2 i u hu) g
def Sub (j:Nat)(vs l:List Value):Prop:=∀i u,vs[i]? = some u->l[j+i]? = some u
theorem WD.Xi {q:Nat}{vs:List Value}(hκ:calm κ=true)(hx:ev e x=some (.pointer (some ⟨b,j,none⟩)))(hT:X.T.Ok X.P)(ht:X.T.agg t=some q){fr:Nat×Nat}(hm:[(b,.cells l.toArray T fr)]∈Ag κ Ms Ls)(hl:vs.length=q)(hv:Sub j vs l)
  (g:WO X f ops k Ms r' ((d,.agg vs.toArray) :: e) Ls):WD X f ops k Ms κ (some d) (.load t x) r' e Ls :=
 .rd hκ (fun _ _ _ ho E S=>th E ho hx (aW.vz hT ht) (S.one hm) hl fun i u hu=>by simpa using hv i u hu) g
theorem WD.Y3 {C:Chunk}{s m c i q:Nat}{xs vs:List Value}{off:Nat}(hκ:calm κ=true)(hx:ev e x=some (.pointer (some ⟨b,off+i,none⟩)))(hT:X.T.Ok X.P)(ht:X.T.agg t=some q)(hR:Rd C s (.slice (some ⟨b,off,none⟩) m c) m xs)(hm:C∈Ag κ Ms Ls)(hv:Sub i vs xs)(hl:vs.length=q)
  (g:WO X f ops k Ms r' ((d,.agg vs.toArray) :: e) Ls):WD X f ops k Ms κ (some d) (.load t x) r' e Ls:=.OA hκ hx hT ht hR hm hl hv g
theorem av {α:Type}{lay:α->List Value}{s:Nat}(hs:∀a,(lay a).length=s):∀(l:List α) (i:Nat) (a:α),l[i]? = some a->Sub (i*s) (lay a) (l.flatMap lay)
 | [],_,_,h=>by cases h
 | x :: l,0,a,h=>fun j u hu=>by
  cases h
  rw [flatMap_cons,Nat.zero_mul,Nat.zero_add,getElem?_append_left (List.getElem?_eq_some_iff.1 hu).1];exact hu
 | x :: l,i+1,a,h=>fun j u hu=>by
  rw [flatMap_cons,getElem?_append_right (by rw [hs,Nat.succ_mul];omega),hs,show (i+1)*s+j - s=i*s+j by rw [Nat.succ_mul];omega]
  exact av hs l i a h j u hu
def Xj (T:aW)(t:TypeId):Option Nat:=match T.kW t with
 | some (.slice el)=>T.sz el
 | _=>none
theorem sr {P:Program}{T':aW}(hT:T'.Ok P){s:Nat}(h:Xj T' t=some s):∃el,P.underlying t=some (.slice el)/\(P.info? el).map (·.size)=some s:=by
 unfold Xj at h
 split at h
 ·rename_i el he;exact ⟨el,aW.aU hT he,aW.tq hT h⟩
 ·cases h
theorem WD.idx {off m c i s:Nat}{kk:IntKind}{q:Int}(hκ:calm κ=true)(hx:ev e x=some (.slice (some ⟨b,off,none⟩) m c))(hy:ev e y=some (.int kk q))(hT:X.T.Ok X.P)(hs:Xj X.T t=some s)(hq:q=(i:Int))(hi:i<m)(hj:off+i*s=j)
  (g:WO X f ops k Ms r' ((d,.pointer (some ⟨b,j,none⟩)) :: e) Ls):WD X f ops k Ms κ (some d) (.indexAddr t x y) r' e Ls:=by
 obtain ⟨el,h1,h2⟩:=sr hT hs
 exact .rd hκ (fun _ _ _ ho E _=>by rw [<-hj];exact jr E ho hx hy h1 h2 hq hi) g
def arS (T:aW)(t:TypeId):Option (Nat×Nat):=match T.kW t with
 | some (.array m el)=>match T.sz el with
  | some i=>some (m,i)
  | none=>none
 | _=>none
theorem Y4 {P:Program}{T':aW}(hT:T'.Ok P){m s:Nat}(h:arS T' t=some (m,s)):∃el,P.underlying t=some (.array m el)/\(P.info? el).map (·.size)=some s:=by
 unfold arS at h
 split at h
 ·rename_i m' el he
  split at h
  ·rename_i i hi;cases h;exact ⟨el,aW.aU hT he,aW.tq hT hi⟩
  ·cases h
 ·cases h
theorem WD.aek {off m i s:Nat}{kk:IntKind}{q:Int}(hκ:calm κ=true)(hx:ev e x=some (.pointer (some ⟨b,off,none⟩)))(hy:ev e y=some (.int kk q))(hT:X.T.Ok X.P)(hs:arS X.T t=some (m,s))(hq:q=(i:Int))(hi:i<m)(hj:off+i*s=j)
  (g:WO X f ops k Ms r' ((d,.pointer (some ⟨b,j,none⟩)) :: e) Ls):WD X f ops k Ms κ (some d) (.indexAddr t x y) r' e Ls:=by
 obtain ⟨el,h1,h2⟩:=Y4 hT hs
 exact .rd hκ (fun _ _ _ ho E _=>by rw [<-hj];exact fI E ho hx hy h1 h2 hq hi) g
theorem WD.ael {s fl off q:Nat}(hκ:calm κ=true)(hx:ev e x=some (.pointer (some ⟨b,off,none⟩)))(hT:X.T.Ok X.P)(hf:X.T.fld s fl=some q)(hj:off+q=j)
  (g:WO X f ops k Ms r' ((d,.pointer (some ⟨b,j,none⟩)) :: e) Ls):WD X f ops k Ms κ (some d) (.fieldAddr s x fl) r' e Ls :=
 .rd hκ (fun _ _ _ ho E _=>by rw [<-hj];exact lR E ho hx (aW.Oj hT hf)) g
def ari (op:BinOp)(k:IntKind)(p q:Int):Option (Int×Prop):=match op with
 | .add=>some (k.wrap (p+q),True)
 | .sub=>some (k.wrap (p - q),True)
 | .mul=>some (k.wrap (p*q),True)
 | .quo=>some (k.wrap (p.tdiv q),q≠0)
 | .rem=>some (p.tmod q,q≠0)
 | .and=>some (bits .and k p q,True)
 | .or=>some (bits .or k p q,True)
 | .xor=>some (bits .xor k p q,True)
 | _=>none
theorem WD.ari {op:BinOp}{t':TypeId}{kk kj:IntKind}{p q z z':Int}{side:Prop}(hκ:calm κ=true)(hx:ev e x=some (.int kk p))(hy:ev e y=some (.int kj q))(hk:keq kk kj=true)(ha:Sl.ari op kk p q=some (z,side))(hs:side)(hz:z=z')
  (g:WO X f ops k Ms r' ((d,.int kk z') :: e) Ls):WD X f ops k Ms κ (some d) (.binOp op t x y t') r' e Ls:=by
 obtain rfl:=GO hk
 subst hz
 refine .rd hκ (fun _ _ _ ho E _ => ?_) g
 unfold Sl.ari at ha
 split at ha <;> cases ha
 ·exact Gu E ho hx hy rfl
 ·exact Yy E ho hx hy rfl
 ·exact Yz E ho hx hy rfl
 ·exact YA E ho hx hy hs rfl
 ·exact YB E ho hx hy hs rfl
 ·exact YC E ho hx hy rfl
 ·exact abr E ho hx hy rfl
 ·exact YD E ho hx hy rfl
theorem WD.shl {t':TypeId}{kk kj:IntKind}{p q z:Int}(hκ:calm κ=true)(hx:ev e x=some (.int kk p))(hy:ev e y=some (.int kj q))(h0:0<=q/\q<=kk.bits)(hz:kk.wrap (p*2 ^ q.toNat)=z)
  (g:WO X f ops k Ms r' ((d,.int kk z) :: e) Ls):WD X f ops k Ms κ (some d) (.binOp .shl t x y t') r' e Ls:=.rd hκ (fun _ _ _ ho E _=>YF E ho hx hy h0.1 h0.2 hz) g
theorem WD.shr {t':TypeId}{kk kj:IntKind}{p q z:Int}(hκ:calm κ=true)(hx:ev e x=some (.int kk p))(hy:ev e y=some (.int kj q))(h0:0<=q/\q<=kk.bits)(hz:p / 2 ^ q.toNat=z)
  (g:WO X f ops k Ms r' ((d,.int kk z) :: e) Ls):WD X f ops k Ms κ (some d) (.binOp .shr t x y t') r' e Ls:=.rd hκ (fun _ _ _ ho E _=>YE E ho hx hy h0.1 h0.2 hz) g
theorem WD.conv {t':TypeId}{kk dk:IntKind}{p z:Int}{sd:TypeDesc}(hκ:calm κ=true)(hx:ev e x=some (.int kk p))(hT:X.T.Ok X.P)(hs:X.T.kW t=some sd)(hd:X.T.kW t'=some (.int dk))(hz:dk.wrap p=z)
  (g:WO X f ops k Ms r' ((d,.int dk z) :: e) Ls):WD X f ops k Ms κ (some d) (.convert t t' x) r' e Ls:=.rd hκ (fun _ _ _ ho E _=>Gw E ho hx (aW.aU hT hs) (aW.aU hT hd) hz) g
theorem WD.neg {kk:IntKind}{p z:Int}(hκ:calm κ=true)(hx:ev e x=some (.int kk p))(hz:kk.wrap (-p)=z)
  (g:WO X f ops k Ms r' ((d,.int kk z) :: e) Ls):WD X f ops k Ms κ (some d) (.unOp .neg t x) r' e Ls:=.rd hκ (fun _ _ _ ho E _=>YK E ho hx hz) g
theorem WD.S6 {p z:Int}(hκ:calm κ=true)(hx:ev e x=some (.int .u32 p))(hz:bits .xor .u32 4294967295 p=z)
  (g:WO X f ops k Ms r' ((d,.int .u32 z) :: e) Ls):WD X f ops k Ms κ (some d) (.unOp .xor t x) r' e Ls:=.rd hκ (fun _ _ _ ho E _=>YU E ho hx hz) g
def arE (T:aW)(t:TypeId):Option Nat:=match T.kW t with
 | some (.array m el)=>match T.Xf el,T.sz el with
  | true,some 1=>some m
  | _,_=>none
 | _=>none
theorem WD.ixA {kk:IntKind}{q:Int}{i m:Nat}{cs:List Value}(hκ:calm κ=true)(hx:ev e x=some (.agg cs.toArray))(hy:ev e y=some (.int kk q))(hT:X.T.Ok X.P)(hs:arE X.T t=some m)(hq:q=(i:Int))(hi:i<m)(hv:cs[i]? = some v)
  (g:WO X f ops k Ms r' ((d,v) :: e) Ls):WD X f ops k Ms κ (some d) (.index t x y) r' e Ls:=by
 unfold arE at hs
 split at hs
 ·rename_i _ el h1
  split at hs
  ·rename_i h2 h3;cases hs;exact .rd hκ (fun _ _ _ ho E _=>zY E ho hx hy (aW.aU hT h1) (aW.vy hT h2) (aW.tq hT h3) hq hi (by rw [getElem?_toArray];exact hv)) g
  ·cases hs
 ·cases hs
theorem WD.s2a {el:TypeId}{l c m:Nat}{ad:Option Addr}(hκ:calm κ=true)(hx:ev e x=some (.slice ad l c))(hT:X.T.Ok X.P)(ht:X.T.kW t=some (.array m el))(hm:m<=l)
  (g:WO X f ops k Ms r' ((d,.pointer ad) :: e) Ls):WD X f ops k Ms κ (some d) (.sliceToArrayPointer t x) r' e Ls:=.rd hκ (fun _ _ _ ho E _=>YV E ho hx (aW.aU hT ht) hm) g
theorem WD.abE {q:Nat}(hκ:calm κ=true)(hx:ev e x=some (.pointer (some ⟨b,0,none⟩)))(hT:X.T.Ok X.P)(ht:X.T.agg t=some q){fr:Nat×Nat}(hm:[(b,.cells l.toArray T fr)]∈Ag κ Ms Ls)(hl:l.length=q)
  (g:WO X f ops k Ms r' ((d,.agg l.toArray) :: e) Ls):WD X f ops k Ms κ (some d) (.load t x) r' e Ls:=.Xi hκ hx hT ht hm hl (fun i u h=>by rw [Nat.zero_add];exact h) g
def IW (T:aW)(F:TypeId->List Value->List Value->Option Bool):List Field->List Value->List Value->Option Bool
 | [],_,_=>some true
 | fd :: r,us,vs=>bif fd.name == "_" then none else match T.ty fd.type with
  | none=>none
  | some i=>bif Nat.blt us.length (fd.offset+i.size)||Nat.blt vs.length (fd.offset+i.size) then none else
   match F fd.type ((us.drop fd.offset).take i.size) ((vs.drop fd.offset).take i.size) with
   | none=>none
   | some p=>match r with
    | []=>some p
    | r=>match IW T F r us vs with
     | none=>none
     | some q=>some (p&&q)
def Y5 (T:aW):Nat->TypeId->List Value->List Value->Option Bool
 | 0,_,_,_=>none
 | d+1,t,us,vs=>match T.kW t with
  | some (.int _)=>match us,vs with
   | [.int k a],[.int k' b]=>bif keq k k' then some (a==b) else none
   | _,_=>none
  | some .bool=>match us,vs with
   | [.bool a],[.bool b]=>some (a==b)
   | _,_=>none
  | some (.struct fs)=>IW T (Y5 T d) fs.toList us vs
  | _=>none
theorem Dh {P:Program}{T:aW}(hT:T.Ok P){F G:TypeId->List Value->List Value->Option Bool}(hF:∀t us vs r,F t us vs=some r->G t us vs=some r):∀(fs:List Field) (us vs:List Value) (r:Bool),IW T F fs us vs=some r->si P G fs us vs=some r
 | [],_,_,_,h=>h
 | fd :: fs,us,vs,r,h=>by
  unfold IW at h
  unfold si
  cases hn:(fd.name == "_") with
  | true=>rw [hn,cond_true] at h;cases h
  | false =>
   rw [hn,cond_false] at h
   rw [cond_false]
   split at h
   ·cases h
   ·rename_i i hi
    rw [hT.ty _ _ hi]
    simp only
    cases hb:(Nat.blt us.length (fd.offset+i.size)||Nat.blt vs.length (fd.offset+i.size)) with
    | true=>rw [hb,cond_true] at h;cases h
    | false =>
     rw [hb,cond_false] at h
     rw [cond_false]
     split at h
     ·cases h
     ·rename_i p hp
      rw [hF _ _ _ _ hp]
      simp only
      cases fs with
      | nil=>exact h
      | cons f2 fs2 =>
       simp only at h ⊢
       split at h
       ·cases h
       ·rename_i q hq
        rw [Dh hT hF (f2 :: fs2) us vs q hq]
        exact h
theorem vK {P:Program}{T:aW}(hT:T.Ok P):∀(n:Nat) (t:TypeId) (us vs:List Value) (r:Bool),Y5 T n t us vs=some r->cj P n t us vs=some r
 | 0,_,_,_,_,h=>by cases h
 | n+1,t,us,vs,r,h=>by
  unfold Y5 at h
  unfold cj
  split at h
  ·rename_i hu
   rw [aW.aU hT hu]
   simp only
   split at h
   ·rename_i k a k' b
    cases hk:keq k k' with
    | false=>rw [hk] at h;cases h
    | true=>obtain rfl:=GO hk;rw [hk,cond_true] at h;simpa using h
   ·cases h
  ·rename_i hu
   rw [aW.aU hT hu]
   simp only
   split at h
   ·exact h
   ·cases h
  ·rename_i fs hu
   rw [aW.aU hT hu]
   exact Dh hT (fun t us vs r h=>vK hT n t us vs r h) fs.toList us vs r h
  ·cases h
def KH (P:Program)(t:TypeId):Bool:=lT P 8 t&&(!P.eqGuardType P.depth t&&dI P t)
theorem WD.eqA {t':TypeId}{us vs:List Value}{q:Bool}(hκ:calm κ=true)(hx:ev e x=some (.agg us.toArray))(hy:ev e y=some (.agg vs.toArray))(hT:X.T.Ok X.P)(hr:Y5 X.T 8 t us vs=some q)(hh:KH X.P t=true)
  (g:WO X f ops k Ms r' ((d,.bool q) :: e) Ls):WD X f ops k Ms κ (some d) (.binOp .eql t x y t') r' e Ls:=by
 unfold KH at hh
 simp only [Bool.and_eq_true,Bool.not_eq_true'] at hh
 exact .rd hκ (fun _ _ _ ho E _=>zW E ho hx hy (vK hT _ _ _ _ _ hr) hh.1 hh.2.1 hh.2.2) g
theorem WD.neA {t':TypeId}{us vs:List Value}{q:Bool}(hκ:calm κ=true)(hx:ev e x=some (.agg us.toArray))(hy:ev e y=some (.agg vs.toArray))(hT:X.T.Ok X.P)(hr:Y5 X.T 8 t us vs=some q)(hh:KH X.P t=true)
  (g:WO X f ops k Ms r' ((d,.bool !q) :: e) Ls):WD X f ops k Ms κ (some d) (.binOp .neq t x y t') r' e Ls:=by
 unfold KH at hh
 simp only [Bool.and_eq_true,Bool.not_eq_true'] at hh
 exact .rd hκ (fun _ _ _ ho E _=>zX E ho hx hy (vK hT _ _ _ _ _ hr) hh.1 hh.2.1 hh.2.2) g
theorem WD.store (hκ:dR κ=true)(hx:ev e x=some (.pointer (some ⟨b,j,none⟩)))(hy:ev e y=some v)(h1:v.oneCell'=true)(hT:X.T.Ok X.P)(hs:X.T.sz t=some 1)(hp:Ls.Perm ([(b,ax l T)] :: Rs))(hj:j<l.length)
  (hk:cZ κ Ms ([(b,ax (l.set j v) T)] :: Rs)) (g:WO X f ops k Ms r' e ([(b,ax (l.set j v) T)] :: Rs)):WD X f ops k Ms κ none (.store t x y) r' e Ls :=
 .ac hκ fun _ _ _ ho hd _ E S=>Ko E S ho hd hx hy h1 (aW.tq hT hs) hp hj fun _ _ E' S'=>KO.mk rfl hk g E' S'
def KJ:Nat->Value->List Value->Option (List Value)
 | _,_,[]=>none
 | 0,v,_ :: l=>some (v :: l)
 | j+1,v,u :: l=>match KJ j v l with
  | some r=>some (u :: r)
  | none=>none
theorem IX:∀ {j:Nat} {v:Value} {l l':List Value},KJ j v l=some l'->j<l.length/\l.set j v=l'
 | j,_,[],_,h=>by cases j <;> simp [KJ] at h
 | 0,v,u :: l,l',h=>by simp only [KJ,Option.some.injEq] at h;subst h;simp
 | j+1,v,u :: l,l',h=>by
  simp only [KJ] at h
  split at h
  ·rename_i r hr
   cases h
   obtain ⟨h1,h2⟩:=IX hr
   exact ⟨by simp;omega,by rw [set_cons_succ,h2]⟩
  ·cases h
theorem WD.Y6 {l':List Value}(hκ:dR κ=true)(hx:ev e x=some (.pointer (some ⟨b,j,none⟩)))(hy:ev e y=some v)(h1:v.oneCell'=true)(hT:X.T.Ok X.P)(hs:X.T.sz t=some 1)(hp:Ls.Perm ([(b,ax l T)] :: Rs))(hl:KJ j v l=some l')
  (hk:cZ κ Ms ([(b,ax l' T)] :: Rs)) (g:WO X f ops k Ms r' e ([(b,ax l' T)] :: Rs)):WD X f ops k Ms κ none (.store t x y) r' e Ls:=by
 obtain ⟨hj,rfl⟩:=IX hl
 exact .store hκ hx hy h1 hT hs hp hj hk g
def Ai:Nat->List Value->List Value->Option (List Value)
 | _,[],l=>some l
 | 0,v :: vs,_ :: l=>match Ai 0 vs l with
  | some r=>some (v :: r)
  | none=>none
 | _,_ :: _,[]=>none
 | j+1,v :: vs,u :: l=>match Ai j (v :: vs) l with
  | some r=>some (u :: r)
  | none=>none
def ins:Nat->List Value->List Value->List Value
 | _,[],l=>l
 | 0,v :: vs,_ :: l=>v :: ins 0 vs l
 | _,_ :: _,[]=>[]
 | j+1,v :: vs,u :: l=>u :: ins j (v :: vs) l
theorem su:∀(j:Nat) (vs l:List Value),j+vs.length<=l.length->ins j vs l=l.take j++vs++l.drop (j+vs.length)
 | j,[],l,_=>by simp [ins]
 | 0,v :: vs,[],h=>by simp at h
 | 0,v :: vs,u :: l,h=>by
  simp only [ins,take_zero,nil_append,length_cons,Nat.zero_add,drop_succ_cons,cons_append]
  rw [su 0 vs l (by simp at h;omega)]
  simp
 | j+1,v :: vs,[],h=>by simp at h
 | j+1,v :: vs,u :: l,h=>by
  simp only [ins,take_succ_cons,cons_append]
  rw [su j (v :: vs) l (by simp at h ⊢;omega)]
  simp [show j+1+(vs.length+1)=(j+(vs.length+1))+1 by omega]
theorem Aj:∀ {j:Nat} {vs l l':List Value},Ai j vs l=some l'->ins j vs l=l'/\(vs≠[]->j+vs.length<=l.length)
 | j,[],l,l',h=>by simp only [Ai,Option.some.injEq] at h;subst h;simp [ins]
 | 0,v :: vs,[],l',h=>by simp [Ai] at h
 | j+1,v :: vs,[],l',h=>by simp [Ai] at h
 | 0,v :: vs,u :: l,l',h=>by
  simp only [Ai] at h
  split at h
  ·rename_i r hr
   cases h
   obtain ⟨h1,h2⟩:=Aj hr
   refine ⟨by rw [ins,h1],fun _ => ?_⟩
   cases vs with
   | nil=>simp
   | cons a b=>have:=h2 (by simp);simp at this ⊢;omega
  ·cases h
 | j+1,v :: vs,u :: l,l',h=>by
  simp only [Ai] at h
  split at h
  ·rename_i r hr
   cases h
   obtain ⟨h1,h2⟩:=Aj hr
   exact ⟨by rw [ins,h1],fun _=>by have:=h2 (by simp);simp at this ⊢;omega⟩
  ·cases h
theorem WD.Ak {vs l':List Value}(hκ:dR κ=true)(hx:ev e x=some (.pointer (some ⟨b,j,none⟩)))(hy:ev e y=some (.agg vs.toArray))(h1:vs.all (·.oneCell')=true)(hT:X.T.Ok X.P)(hs:X.T.sz t=some vs.length)(hp:Ls.Perm ([(b,ax l T)] :: Rs))(hj:j+vs.length<=l.length)(hl:ins j vs l=l')
  (hk:cZ κ Ms ([(b,ax l' T)] :: Rs)) (g:WO X f ops k Ms r' e ([(b,ax l' T)] :: Rs)):WD X f ops k Ms κ none (.store t x y) r' e Ls :=
 .ac hκ fun _ _ _ ho hd _ E S=>Kp E S ho hd hx hy (fun u hu=>all_eq_true.1 h1 u hu) (aW.tq hT hs) hp hj fun _ _ E' S'=>by rw [<-su j vs l hj,hl] at S';exact KO.mk rfl hk g E' S'
theorem WD.Y7 {vs l':List Value}(hκ:dR κ=true)(hx:ev e x=some (.pointer (some ⟨b,j,none⟩)))(hy:ev e y=some (.agg vs.toArray))(h1:(!vs.isEmpty&&vs.all (·.oneCell'))=true)(hT:X.T.Ok X.P)(hs:X.T.sz t=some vs.length)(hp:Ls.Perm ([(b,ax l T)] :: Rs))(hl:Ai j vs l=some l')
  (hk:cZ κ Ms ([(b,ax l' T)] :: Rs)) (g:WO X f ops k Ms r' e ([(b,ax l' T)] :: Rs)):WD X f ops k Ms κ none (.store t x y) r' e Ls:=by
 rw [Bool.and_eq_true] at h1
 obtain ⟨h3,h4⟩:=Aj hl
 exact .Ak hκ hx hy h1.2 hT hs hp (h4 fun h=>by rw [h] at h1;simp at h1) h3 hk g
theorem WD.Y8 {q:Nat}{vs:List Value}(hκ:dR κ=true)(hx:ev e x=some (.pointer (some ⟨b,0,none⟩)))(hy:ev e y=some (.agg vs.toArray))(hT:X.T.Ok X.P)(hs:X.T.sz t=some q)(hp:Ls.Perm ([(b,ax l T)] :: Rs))(h1:∀u∈vs,u.oneCell'=true)(hv:vs.length=q)(hl:l.length=q)
  (hk:cZ κ Ms ([(b,ax vs T)] :: Rs)) (g:WO X f ops k Ms r' e ([(b,ax vs T)] :: Rs)):WD X f ops k Ms κ none (.store t x y) r' e Ls :=
 .Ak hκ hx hy (all_eq_true.2 h1) hT (by rw [hv];exact hs) hp oZ (by rw [su 0 vs l oZ,take_zero,nil_append,drop_eq_nil_of_le oZ,append_nil]) hk g
def TN (v:Value):Option (List Value):=match v with
 | .agg ⟨l⟩=>force l some
 | v=>some [v]
theorem IY {vs:List Value}(h:TN v=some vs):v.cells=vs.toArray:=by
 unfold TN at h
 split at h
 ·rw [force_eq] at h;cases h;rfl
 ·rename_i hv;cases h;cases v <;> first | rfl | exact absurd rfl (hv _)
theorem WD.box {vs:List Value}(hκ:dR κ=true)(hx:ev e x=some v)(hv:TN v=some vs)
  (hM:cZ κ Ms Ls) (g:∀b,WO X f ops k Ms r' ((d,ptr b) :: e) ([(b,ax vs t)] :: Ls)):WD X f ops k Ms κ (some d) (.box t x) r' e Ls :=
 .ac hκ fun _ _ _ ho hd hn E S=>YM E S ho hd (hn d rfl) hx (IY hv) fun _ _ b E' S'=>by
  have hk:cZ κ Ms ([(b,ax vs t)] :: Ls):=fun h C hC=>mem_cons_of_mem _ (hM h C hC)
  exact KO.mk rfl hk (g b) E' S'
theorem WD.aem {vs:List Value}(hκ:dR κ=true)(hx:ev e x=some (.agg vs.toArray))
  (hM:cZ κ Ms Ls) (g:∀b,WO X f ops k Ms r' ((d,ptr b) :: e) ([(b,ax vs t)] :: Ls)):WD X f ops k Ms κ (some d) (.box t x) r' e Ls:=.box hκ hx (by show force vs some=some vs;rw [force_eq]) hM g
def abF (T:aW)(t:TypeId):Option (List Value):=match T.ty t with
 | some i=>match i.zero with
  | some z=>TN z
  | none=>none
 | none=>none
theorem WD.alloc {vs:List Value}(hκ:dR κ=true)(hT:X.T.Ok X.P)(hv:abF X.T t=some vs)
  (hM:cZ κ Ms Ls) (g:∀b,WO X f ops k Ms r' ((d,ptr b) :: e) ([(b,ax vs t)] :: Ls)):WD X f ops k Ms κ (some d) (.alloc t) r' e Ls:=by
 unfold abF at hv
 split at hv
 ·rename_i i hi
  split at hv
  ·rename_i z hz
   refine .ac hκ fun _ _ _ ho hd hn E S=>N0 E S ho hd (hn d rfl) (hT.ty _ _ hi) hz (IY hv) fun _ _ b E' S' => ?_
   have hk:cZ κ Ms ([(b,ax vs t)] :: Ls):=fun h C hC=>mem_cons_of_mem _ (hM h C hC)
   exact KO.mk rfl hk (g b) E' S'
  ·cases hv
 ·cases hv
end
structure iv (Ls Bs Rs:List Chunk):Prop where
 p:Ls.flatten.Perm (Bs.flatten++Rs.flatten)
theorem OB (Ls:List Chunk):iv Ls [] Ls:=⟨List.Perm.refl _⟩
theorem KK {Ls As Rs bm:List Chunk}{A:Chunk}(h:Ls.Perm (A :: bm))(k:iv bm As Rs):iv Ls (A :: As) Rs:=by
 have h1:=h.flatten
 rw [flatten_cons] at h1
 refine ⟨?_⟩
 rw [flatten_cons,append_assoc]
 exact h1.trans (k.p.append_left A)
theorem OC {Ls As Rs:List Chunk}{A B:Chunk}(k:iv Ls (A :: B :: As) Rs):iv Ls ((A++B) :: As) Rs:=by
 have:=k.p
 exact ⟨by simpa [flatten_cons,append_assoc] using this⟩
theorem KL {Ls As Rs:List Chunk}(k:iv Ls As Rs):iv Ls ([] :: As) Rs:=⟨by simpa using k.p⟩
theorem St.y7 {w0 w:World}{As Ls Bs Rs:List Chunk}(S:St w0 As w Ls)(s:iv Ls Bs Rs):St w0 As w Bs:=⟨S.NT,Tr.drop (C:=Rs.flatten) (Tr.perm S.tr (List.Perm.refl _) s.p)⟩
theorem St.tt {w0 w:World}{As Ls Bs Rs:List Chunk}(S:St w0 As w Ls)(s:iv Ls Bs Rs):St w0 As w (Bs++Rs):=⟨S.NT,Tr.perm S.tr (List.Perm.refl _) (by rw [flatten_append];exact s.p)⟩
inductive IZ:List Chunk->List Chunk->Prop
 | nil:IZ [] []
 | app {A B:Chunk} {L M:List Chunk} (h:IZ (A :: B :: L) M):IZ ((A++B) :: L) M
 | cons {A:Chunk} {L M:List Chunk} (h:IZ L M):IZ (A :: L) (A :: M)
theorem IZ.eq {L M:List Chunk}(h:IZ L M):L.flatten=M.flatten:=by
 induction h with
 | nil=>rfl
 | app _ ih=>rw [<-ih];simp [append_assoc]
 | cons _ ih=>simp [ih]
theorem IZ.st {w0 w:World}{As L M:List Chunk}(h:IZ L M)(S:St w0 As w L):St w0 As w M:=⟨S.NT,by have:=S.tr;unfold mR at *;rw [<-h.eq];exact this⟩
theorem WS.spl {c:Code}{M:List Chunk}(h:IZ Ls M)(g:WS X f c k e M):WS X f c k e Ls:=⟨fun a w E S=>g.ap a w E (h.st S)⟩
theorem WO.spl {M:List Chunk}(h:IZ Ls M)(g:WO X f ops k Ms r e M):WO X f ops k Ms r e Ls:=⟨fun a w E S=>g.ap a w E (h.st S)⟩
inductive Ap {α:Type}:List α->List α->List α->Prop
 | nil {r:List α}:Ap [] r r
 | cons {a:α} {l r m:List α} (h:Ap l r m):Ap (a :: l) r (a :: m)
theorem Ap.eq {α:Type}{l r m:List α}(h:Ap l r m):l++r=m:=by
 induction h with
 | nil=>rfl
 | cons _ ih=>rw [cons_append,ih]
structure WC (X:Cx)(f:Fx)(ops:List Oper)(k:Kt)(Ms:List Chunk)(κ:Nat)(r:aB)(e:Env)(Cs Rs:List Chunk):Prop where
 dr:cZ κ Ms (Cs++Rs)
 go:WO X f ops k Ms r e (Cs++Rs)
theorem WC.on {M Cs:List Chunk}(h:Ap Cs Rs M)(hk:cZ κ Ms M)(g:WO X f ops k Ms r e M):WC X f ops k Ms κ r e Cs Rs:=by
 rw [<-h.eq] at hk g;exact ⟨hk,g⟩
structure WB (X:Cx)(f:Fx)(c:Code)(k:Kt)(V Z:Env)(L Rs:List Chunk):Prop where
 go:WS X f c k (V++Z) (L++Rs)
theorem WB.on {c:Code}{V Z:Env}{L M:List Chunk}(h:Ap V Z e)(h':Ap L Rs M)(g:WS X f c k e M):WB X f c k V Z L Rs:=by
 rw [<-h.eq,<-h'.eq] at g;exact ⟨g⟩
structure WK (κ:Nat)(Ms Ls:List Chunk)(p:Prop):Prop where
 dr:cZ κ Ms Ls
 go:p
def num:Nat->List Value->Env
 | _,[]=>[]
 | i,v :: vs=>(i,v) :: num (i+1) vs
theorem ur:∀(vs:List Value) (i k:Nat) (v:Value),lk (num i vs) k=some v->i<=k/\vs[k - i]? = some v
 | [],_,_,_,h=>by simp [num,lk] at h
 | u :: vs,i,k,v,h=>by
  simp only [num,lk] at h
  cases hb:Nat.beq i k with
  | true=>rw [hb,cond_true] at h;cases h;obtain rfl:=Nat.eq_of_beq_eq_true hb;simp
  | false =>
   rw [hb,cond_false] at h
   obtain ⟨h1,h2⟩:=ur vs (i+1) k v h
   exact ⟨by omega,by rw [show k - i=(k - (i+1))+1 by omega,getElem?_cons_succ];exact h2⟩
theorem aen {a:Value}:num 0 [a]=[(0,a)]:=rfl
theorem aeo {a b:Value}:num 0 [a,b]=[(0,a),(1,b)]:=rfl
theorem aep {a b c:Value}:num 0 [a,b,c]=[(0,a),(1,b),(2,c)]:=rfl
theorem aeq {a b c d:Value}:num 0 [a,b,c,d]=[(0,a),(1,b),(2,c),(3,d)]:=rfl
theorem aer {a b c d g:Value}:num 0 [a,b,c,d,g]=[(0,a),(1,b),(2,c),(3,d),(4,g)]:=rfl
theorem aes {a b c d g h:Value}:num 0 [a,b,c,d,g,h]=[(0,a),(1,b),(2,c),(3,d),(4,g),(5,h)]:=rfl
theorem aet:num 0 []=[]:=rfl
def Np (P:Program)(g:FuncId)(args:List Value)(As:List Chunk)(cB:Value->List Chunk->Prop):Prop:=∀w,Hp w As->TD P g args.toArray w fun u w'=>∃Bs,cB u Bs/\mR w w' As Bs
structure sw (cB:Value->List Chunk->Prop)(u:Value)(Ls:List Chunk):Prop where
 out:∃Bs Rs,iv Ls Bs Rs/\cB u Bs
theorem Np.mk {P:Program}{T:aW}{g:FuncId}{args:List Value}{As:List Chunk}{cB:Value->List Chunk->Prop}{fn:Func}{c:Code}{n:Nat}{e:Env}(hf:P.funcs[g]? = some fn)(hb:fn.body=some c)(hn:fn.ntmps=n)(hs:Nat.ble args.length n=true)(he:num 0 args=e)
  (h:∀w0,WS ⟨P,T,w0,As,none,[]⟩ ⟨fn,n,sw cB⟩ c .top e As):Np P g args As cB:=fun w H=>by
 refine yP n _ e hf hb hn (by simpa using Nat.le_of_ble_eq_true hs) (fun k v hk => ?_) fun a E => ?_
 ·rw [<-he] at hk
  have:=ur args 0 k v hk
  simpa using this.2
 ·refine wp_mono ((wpIn_wide (n:=0)).1 ((h w).ap a w E (.begin H))) fun x a' w' Xk => ?_
  have hx:=Xk rfl
  have conv:∀en,Fin ⟨P,T,w,As,none,[]⟩ (sw cB) en w'->∃v,en = .returned v/\∃Bs,cB v Bs/\mR w w' As Bs:=fun en hF=>by
   obtain ⟨v,Ls,rfl,S,⟨Bs,Rs,Ty,hP⟩⟩:=hF
   exact ⟨v,rfl,Bs,hP,(S.y7 Ty).tr⟩
  cases x with
  | normal=>obtain ⟨h1,v,h2,h3⟩:=hx;exact ⟨h1,v,h2,conv _ h3⟩
  | ret=>obtain ⟨h1,v,h2,h3⟩:=hx;exact ⟨h1,v,h2,conv _ h3⟩
  | panic ch=>exact ⟨hx.1,conv _ hx.2⟩
  | outgrown=>exact conv _ hx
  | exit i=>exact hx
  | goto l=>exact hx
theorem Np.imp {P:Program}{g:FuncId}{args:List Value}{As:List Chunk}{cB Xl:Value->List Chunk->Prop}(h:Np P g args As cB)(hi:∀u Bs,cB u Bs->Xl u Bs):Np P g args As Xl:=fun w H =>
 (h w H).mono fun _ _ ⟨Bs,hp,ht⟩=>⟨Bs,hi _ _ hp,ht⟩
section
variable {g:FuncId}{fn:Func}{xs:List Operand}{ts:Array TypeId}{vs As:List Value}{c:Code}{n':Nat}{Bs:List Chunk}{cB:Value->List Chunk->Prop}
def clo (e:Env):Operand->Option (FuncId×List Value×List Value)
 | .func g=>some (g,[],[])
 | x=>match ev e x with
  | some (.func (.func g) ⟨a⟩ ⟨b⟩)=>some (g,a,b)
  | _=>none
def TO (e:Env)(x:Operand)(xs:List Operand):Option (FuncId×List Value):=match clo e x,IL e xs with
 | some (g,a,b),some vs=>force (a++vs++b) fun vs=>some (g,vs)
 | _,_=>none
def Am (T:aW)(g:FuncId):Option Func:=match T.fn g with
 | some fn=>match fn.body.isSome,fn.name == "runtime.NumGoroutine" with
  | true,false=>some fn
  | _,_=>none
 | none=>none
theorem qC {P:Program}{T:aW}(hT:T.Ok P)(h:Am T g=some fn):P.funcs[g]? = some fn/\fn.body.isSome=true/\(fn.name == "runtime.NumGoroutine")=false:=by
 unfold Am at h
 split at h
 ·rename_i fn' hf
  split at h
  ·rename_i h1 h2;cases h;exact ⟨hT.fn _ _ hf,h1,h2⟩
  ·cases h
 ·cases h
theorem WD.calls {x:Operand}(hκ:dR κ=true)(ha:TO e x xs=some (g,vs))(hT:X.T.Ok X.P)(hf:Am X.T g=some fn)
  (hr:∀w,St X.w0 X.As w Ls->TD X.P g vs.toArray w fun u w'=>∃bm,St X.w0 X.As w' bm/\cZ κ Ms bm/\WO X f ops k Ms r' ((d,u) :: e) bm):WD X f ops k Ms κ (some d) (.call ⟨.value x,⟨xs⟩,ts⟩) r' e Ls:=by
 obtain ⟨h1,h2,h3⟩:=qC hT hf
 refine .ac hκ fun o a w ho hd hn E S => ?_
 have fin:TD X.P g vs.toArray w fun u w'=>KO X f ops k Ms κ r' (a.put o.dst u) w':=(hr w S).mono fun u w' ⟨bm,S',hk,hg⟩=>by
  rw [hd];exact KO.mk rfl hk hg (E.put (hn d rfl) u) S'
 unfold TO at ha
 split at ha
 ·rename_i g' fa fb vs' hc hv
  rw [force_eq] at ha
  cases ha
  unfold Oper.wp
  have dQ:(execOp a.eval o).run X.P w = .ok (.enter g (fa++vs'++fb).toArray) w:=by
   unfold clo at hc
   split at hc
   ·cases hc
    unfold execOp
    simp [ho,resolve,Act.eval,Deferred.ofValue,invoke,E.td hv,jo h1 h2 h3]
   ·split at hc
    ·rename_i hx
     cases hc
     unfold execOp
     have oE:(⟨fa⟩:Array Value)++(⟨vs'⟩:Array Value)++(⟨fb⟩:Array Value)=(fa++vs'++fb).toArray:=by simp
     simp [ho,resolve,E.eval hx,Deferred.ofValue,invoke,E.td hv,jo h1 h2 h3]
    ·cases hc
  rw [dQ]
  refine Calls.mono fin ?_
  rintro en w' ⟨v,rfl,h⟩
  exact h
 ·cases ha
theorem WD.call {x:Operand}{Rs:List Chunk}(hκ:dR κ=true)(ha:TO e x xs=some (g,vs))(hT:X.T.Ok X.P)(hf:Am X.T g=some fn)
  {As:List Value} {Bs:List Chunk} {cB:Value->List Chunk->Prop} (s:Np X.P g As Bs cB) (hv:vs=As) (hs:iv Ls Bs Rs) (hg:∀u Cs,cB u Cs->WC X f ops k Ms κ r' ((d,u) :: e) Cs Rs):WD X f ops k Ms κ (some d) (.call ⟨.value x,⟨xs⟩,ts⟩) r' e Ls:=by
 subst hv
 refine .calls hκ ha hT hf fun w S=>(s w (by have:=(S.tt hs).hp;exact Hp.sel this (List.Perm.refl _))).mono fun u w' ⟨Cs,hp,ht⟩ => ?_
 obtain ⟨h1,h2⟩:=hg u Cs hp
 exact ⟨_,(S.tt hs).call (List.Perm.refl _) ht,h1,h2⟩
theorem WD.enter {P:Program}{T:aW}{w0:World}{Y9:List Chunk}{ro:Option Nat}{ds:List Deferred}{x:Operand}{e':Env}(hκ:dR κ=true)(ha:TO e x xs=some (g,vs))(hT:T.Ok P)(hf:Am T g=some fn)
  (hb:fn.body=some c) (hn:fn.ntmps=n') (hs:Nat.ble vs.length n'=true) (he:num 0 vs=e')
  (hg:WS ⟨P,T,w0,Y9,none,[]⟩ ⟨fn,n',fun u bm=>WK κ Ms bm (WO ⟨P,T,w0,Y9,ro,ds⟩ f ops k Ms r' ((d,u) :: e) bm)⟩ c .top e' Ls):WD ⟨P,T,w0,Y9,ro,ds⟩ f ops k Ms κ (some d) (.call ⟨.value x,⟨xs⟩,ts⟩) r' e Ls:=by
 refine .calls hκ ha hT hf fun w S => ?_
 obtain ⟨h1,_,_⟩:=qC hT hf
 refine yP n' _ e' h1 hb hn (by simpa using Nat.le_of_ble_eq_true hs) (fun k v hk => ?_) fun a E => ?_
 ·rw [<-he] at hk
  have:=ur vs 0 k v hk
  simpa using this.2
 ·refine wp_mono ((wpIn_wide (n:=0)).1 (hg.ap a w E S)) fun x a' w' Xk => ?_
  have hx:=Xk rfl
  have conv:∀en,Fin ⟨P,T,w0,Y9,none,[]⟩ (fun u bm=>WK κ Ms bm (WO ⟨P,T,w0,Y9,ro,ds⟩ f ops k Ms r' ((d,u) :: e) bm)) en w'->∃v,en = .returned v/\∃bm,St w0 Y9 w' bm/\cZ κ Ms bm/\WO ⟨P,T,w0,Y9,ro,ds⟩ f ops k Ms r' ((d,v) :: e) bm:=fun en hF=>by
   obtain ⟨v,Ls,rfl,S,hh⟩:=hF
   exact ⟨v,rfl,Ls,S,hh.dr,hh.go⟩
  cases x with
  | normal=>obtain ⟨h1,v,h2,h3⟩:=hx;exact ⟨h1,v,h2,conv _ h3⟩
  | ret=>obtain ⟨h1,v,h2,h3⟩:=hx;exact ⟨h1,v,h2,conv _ h3⟩
  | panic ch=>exact ⟨hx.1,conv _ hx.2⟩
  | outgrown=>exact conv _ hx
  | exit i=>exact hx
  | goto l=>exact hx
end
inductive RR (T:aW)(e:Env)(Ls:List Chunk):List ResultVar->List Value->Prop
 | nil:RR T e Ls [] []
 | tmp {t:Nat} {v:Value} {rs:List ResultVar} {vs:List Value} (h:lk e t=some v) (g:RR T e Ls rs vs):RR T e Ls (.tmp t :: rs) (v :: vs)
 | cell {t b q:Nat} {ty TP:TypeId} {fr:Nat×Nat} {l us:List Value} {rs:List ResultVar} {vs:List Value} (h:lk e t=some (ptr b)) (hm:[(b,.cells l.toArray TP fr)]∈Ls) (ht:T.agg ty=some q) (hl:us.length=q) (hv:∀(i:Nat) (u:Value),us[i]? = some u->l[i]? = some u) (g:RR T e Ls rs vs):RR T e Ls (.cell t ty :: rs) (.agg us.toArray :: vs)
 | one {t b:Nat} {ty TP:TypeId} {fr:Nat×Nat} {l:List Value} {v:Value} {rs:List ResultVar} {vs:List Value} (h:lk e t=some (ptr b)) (hm:[(b,.cells l.toArray TP fr)]∈Ls) (ht:T.Xf ty=true) (hv:l[0]? = some v) (g:RR T e Ls rs vs):RR T e Ls (.cell t ty :: rs) (v :: vs)
theorem RR.ok {P:Program}{T:aW}(hT:T.Ok P){n:Nat}{a:Act}{w:World}{ds:List Deferred}(E:Fr a n e ds)(S:mH Ls w){rs:List ResultVar}{vs:List Value}(h:RR T e Ls rs vs):(rs.mapM (IT a.tmps)).run P w = .ok vs w:=by
 induction h with
 | nil=>simp
 | @tmp t v rs vs h _ ih =>
  have h3:IT a.tmps (.tmp t)=pure v:=by simp [IT,Array.getD_eq_getD_getElem?,E.get t v h]
  simp only [mapM_cons,h3,pure_bind,Sem.run_bind,ih]
  rfl
 | @cell t b q ty TP fr l us rs vs h hm ht hl hv _ ih =>
  have h1:=E.get t _ h
  have h2:=S.one hm
  have h4:(loadCells ⟨b,0,none⟩ us.length).run P w = .ok us.toArray w:=run_loadCells_list w ⟨b,0,none⟩ us fun i u hu=>by
   have:=hv i u hu
   rw [Addr.add_lit,jq h2];simpa using this
  have h3:(IT a.tmps (.cell t ty)).run P w = .ok (.agg us.toArray) w:=by
   simp [IT,Array.getD_eq_getD_getElem?,h1,ptr,asAddr,loadVar,kG (aW.vz hT ht),run_sizeOf (u7 (aW.vz hT ht)),<-hl,h4]
  simp only [mapM_cons,Sem.run_bind,h3,Result.andThen,ih]
  rfl
 | @one t b ty TP fr l v rs vs h hm ht hv _ ih =>
  have h1:=E.get t _ h
  have h2:=S.one hm
  have h4:w.cell? ⟨b,0,none⟩=some v:=by rw [jq h2,getElem?_toArray];exact hv
  have h3:(IT a.tmps (.cell t ty)).run P w = .ok v w:=by
   simp [IT,Array.getD_eq_getD_getElem?,h1,ptr,asAddr,loadVar,dX (aW.vy hT ht),h4]
  simp only [mapM_cons,Sem.run_bind,h3,Result.andThen,ih]
  rfl
theorem RR.abG {T:aW}{t b q:Nat}{ty TP:TypeId}{fr:Nat×Nat}{l us:List Value}{rs:List ResultVar}{vs:List Value}(h:lk e t=some (ptr b))(hm:[(b,.cells l.toArray TP fr)]∈Ls)(ht:T.agg ty=some q)(hv:sub 0 q l=some us)(g:RR T e Ls rs vs):RR T e Ls (.cell t ty :: rs) (.agg us.toArray :: vs) :=
 .cell h hm ht (sq hv).1 (fun i u hu=>by simpa using (sq hv).2 i u hu) g
theorem RR.abH {T:aW}{t b q:Nat}{ty TP:TypeId}{fr:Nat×Nat}{l:List Value}{rs:List ResultVar}{vs:List Value}(h:lk e t=some (ptr b))(hm:[(b,.cells l.toArray TP fr)]∈Ls)(ht:T.agg ty=some q)(hl:l.length=q)(g:RR T e Ls rs vs):RR T e Ls (.cell t ty :: rs) (.agg l.toArray :: vs) :=
 .cell h hm ht hl (fun _ _ h=>h) g
theorem WE.aeu (hT:X.T.Ok X.P){vs:List Value}{v:Value}(h:RR X.T e Ls f.fn.results.toList vs)(hv:one vs=v)(g:f.F v Ls):WE X f .ret .top e Ls:=⟨fun _ _ E S hd =>
 ⟨hd ▸ E.Kn,v,hv ▸ lU (h.ok hT E S.kE),v,Ls,rfl,S,g⟩⟩
def KM (e V:Env):Prop:=∀p∈V,lk e p.1=some p.2
theorem I0:KM e []:=fun _ h=>by cases h
theorem vN {V:Env}{i:Nat}{u:Value}(h:lk e i=some u)(hu:u=v)(g:KM e V):KM e ((i,v) :: V):=fun p hp=>by
 rcases List.mem_cons.1 hp with rfl | hp
 ·exact hu ▸ h
 ·exact g p hp
inductive TQ (e:Env):List Nat->Env->Prop
 | nil:TQ e [] []
 | cons {i:Nat} {v:Value} {l:List Nat} {Z:Env} (h:lk e i=some v) (g:TQ e l Z):TQ e (i :: l) ((i,v) :: Z)
theorem TQ.agr {l:List Nat}{Z:Env}(h:TQ e l Z):KM e Z:=by
 induction h with
 | nil=>exact I0
 | cons h _ ih=>exact vN h rfl ih
theorem KM.app {V Z:Env}(h:KM e V)(g:KM e Z):KM e (V++Z):=fun p hp=>by
 rcases List.mem_append.1 hp with h' | h'
 ·exact h p h'
 ·exact g p h'
theorem Fr.agr {a:Act}{n:Nat}{V:Env}{ds:List Deferred}(E:Fr a n e ds)(h:KM e V):Fr a n V ds:=E.dr h
theorem WS.loop {ι:Type}{c:Code}(l:List Nat)(V:ι->Env)(L:ι->List Chunk)(φ:ι->Prop)(μ:ι->Nat)(x:ι){Z:Env}{Rs:List Chunk}(hZ:TQ e l Z)(hφ:φ x)(hV:KM e (V x))(hL:iv Ls (L x) Rs)
  (body:∀x,φ x->WB X f c (.Ov (fun e' bm=>∃y,φ y/\μ y<μ x/\KM e' (V y++Z)/\∃Qs,iv bm (L y++Rs) Qs) k) (V x) Z (L x) Rs):WS X f (.loop c) k e Ls:=.mk fun a w E S=>by
 refine kH (fun m a w=>∃x,μ x=m/\φ x/\Fr a f.n (V x++Z) X.ds/\St X.w0 X.As w (L x++Rs)) (μ x) ⟨x,rfl,hφ,E.agr (hV.app hZ.agr),S.tt hL⟩ ?_
 rintro m a w ⟨x,rfl,hx,E,S⟩
 refine wpIn_mono ((body x hx).go.ap a w E S) fun en a w h => ?_
 cases en with
 | normal =>
  obtain ⟨e',bm,E',S',y,hy,br,hA,Qs,hs⟩:=h
  exact ⟨μ y,br,y,rfl,hy,E'.agr hA,S'.y7 hs⟩
 | exit i=>exact h
 | goto l=>exact h
 | ret=>exact h
 | panic ch=>exact h
 | outgrown=>exact h
end
end Go.Sl
