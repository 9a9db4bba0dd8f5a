/-
  5.
-/
import Derived.Test.YtpabnmeponmonaaGreatDoorZTopCrashes4
set_option maxRecDepth 10000
set_option maxHeartbeats 4000000
open List Go.Proofs.Tryz Go.Sl
namespace Go.Sl
def TZ (T:aW)(t:TypeId):Bool:=match T.kW t with
 | some (.pointer _)=>true
 | _=>false
theorem I6 {P:Program}{T:aW}(hT:T.Ok P){t:TypeId}(h:TZ T t=true):∃e,P.underlying t=some (.pointer e):=by
 unfold TZ at h
 split at h
 ·rename_i e h1;exact ⟨e,aW.aU hT h1⟩
 ·cases h
def mtd (P:Program)(t:TypeId)(name:String):Option FuncId:=match P.info? t with
 | some i=>match i.methods.find? (·.name==name) with
  | some m=>match m.path,m.func with
   | ⟨[]⟩,some (f,true)=>some f
   | _,_=>none
  | none=>none
 | none=>none
theorem T0 {P:Program}{w:World}{t e:TypeId}{v:Value}{name:String}{f:FuncId}{n:Nat}(h:mtd P t name=some f)(hu:P.underlying t=some (.pointer e)):(method (n+1) t v name).run P w = .ok (f,v) w:=by
 unfold mtd at h
 split at h
 ·rename_i i hi
  split at h
  ·rename_i m hm
   split at h
   ·rename_i h1 h2
    cases h
    simp [method,typeInfo,hi,hm,h1,follow,h2,receiverAt,run_underlying hu,Place.get]
   ·cases h
  ·cases h
 ·cases h
def vX (P:Program)(t asserted:TypeId):Bool:=match P.underlying asserted,P.info? t with
 | some (.interface want),some i=>(Instr.missingMethod want i.methods).isNone
 | _,_=>false
section
variable {X:Cx}{f:Fx}{k:Kt}{e:Env}{Ls Rs:List Chunk}{ops:List Oper}{Ms:List Chunk}{r':aB}{κ d:Nat}{v:Value}{t:TypeId}{x:Operand}{xs:List Operand}{ts:Array TypeId}{g:FuncId}{fn:Func}{vs:List Value}
theorem WD.mkIf (hκ:calm κ=true)(hx:ev e x=some v)(hT:X.T.Ok X.P)(ht:TZ X.T t=true)
  (g:WO X f ops k Ms r' ((d,.iface t v) :: e) Ls):WD X f ops k Ms κ (some d) (.makeInterface t x) r' e Ls:=by
 obtain ⟨el,hu⟩:=I6 hT ht
 refine .rd hκ (fun _ _ w ho E _ => ?_) g
 have hm:(Instr.makeInterface t v).run X.P w = .ok (.iface t v) w:=run_makeInterface w t v (by simp [Program.concrete,hu])
 simp [ab,execOp,ho,E.eval hx,hm]
theorem WD.tAs {xt asd:TypeId}(hκ:calm κ=true)(hx:ev e x=some (.iface t v))(hm:vX X.P t asd=true)
  (g:WO X f ops k Ms r' ((d,.tuple #[.iface t v,.bool true]) :: e) Ls):WD X f ops k Ms κ (some d) (.typeAssert x xt asd true) r' e Ls:=by
 unfold vX at hm
 split at hm
 ·rename_i want i hu hi
  refine .rd hκ (fun _ _ w ho E _ => ?_) g
  have hn:Instr.missingMethod want i.methods=none:=by simpa using hm
  simp [ab,execOp,ho,E.eval hx,Instr.typeAssert,run_underlying hu,typeInfo,hi,hn]
 ·cases hm
theorem WD.inv {name:String}{Rs:List Chunk}(hκ:dR κ=true)(hx:ev e x=some (.iface t v))(Xq:IL e xs=some vs)(hT:X.T.Ok X.P)(ht:TZ X.T t=true)
  {As:List Value} {Bs:List Chunk} {cB:Value->List Chunk->Prop} (s:Np X.P g As Bs cB) (hf:Am X.T g=some fn) (hm:mtd X.P t name=some g) (hv:v :: vs=As) (hs:iv Ls Bs Rs) (hg:∀u Cs,cB u Cs->WC X f ops k Ms κ r' ((d,u) :: e) Cs Rs):WD X f ops k Ms κ (some d) (.call ⟨.invoke x name,⟨xs⟩,ts⟩) r' e Ls:=by
 subst hv
 obtain ⟨h1,h2,h3⟩:=qC hT hf
 obtain ⟨el,hu⟩:=I6 hT ht
 refine .ac hκ fun o a w ho hd hn E S => ?_
 have hr:TD X.P g (v :: vs).toArray w fun u w'=>∃bm,St X.w0 X.As w' bm/\cZ κ Ms bm/\WO X f ops k Ms r' ((d,u) :: e) bm:=(s w (by have:=(S.tt hs).hp;exact Hp.sel this (List.Perm.refl _))).mono fun u w' ⟨Cs,hp,ht⟩=>by
  obtain ⟨h1,h2⟩:=hg u Cs hp
  exact ⟨_,(S.tt hs).call (List.Perm.refl _) ht,h1,h2⟩
 have fin:TD X.P g (v :: vs).toArray w fun u w'=>KO X f ops k Ms κ r' (a.put o.dst u) w':=hr.mono fun u w' ⟨bm,S',hk,hg⟩=>by
  rw [hd];exact KO.mk rfl hk hg (E.put (hn d rfl) u) S'
 unfold Oper.wp
 have dQ:(execOp a.eval o).run X.P w = .ok (.enter g (v :: vs).toArray) w:=by
  obtain ⟨dp,hdp⟩:∃dp,Made.depth=dp+1:=⟨Made.depth - 1,by decide⟩
  have hme:=T0 (w:=w) (v:=v) (n:=X.P.types.size+dp) hm hu
  have hL:xs.map a.eval=vs:=E.td Xq
  rw [Nat.add_assoc,<-hdp] at hme
  rw [<-hL]
  simp [execOp,ho,resolve,E.eval hx,invoke,callMethod,hme,jo h1 h2 h3]
  exact take_of_length_le (by simp)
 rw [dQ]
 refine Calls.mono fin ?_
 rintro en w' ⟨v,rfl,h⟩
 exact h
end
end Go.Sl
namespace Go.Proofs.YtpabnmeponmonaaGreatDoor
theorem gmi {G H:Prop}(k:H)(h:im H->G:=by
 intro kk;refine go ?_;refine WO.dec rfl ?_;apply WD.mkIf;exact rfl;exact rfl;exact aD;exact rfl;exact kk.out):G:=h ⟨k⟩
theorem gta {G H:Prop}(k:H)(h:im H->G:=by
 intro kk;refine go ?_;refine WO.dec rfl ?_;apply WD.tAs;exact rfl;exact rfl;(show vX prog _ _=true;kernel_rfl);exact kk.out):G:=h ⟨k⟩
theorem gj {G H:Prop}{g:FuncId}{args:List Value}{As:List Chunk}{cB:Value->List Chunk->Prop}(s:Ct g args As cB)(k:H)(h:Ct g args As cB->im H->G:=by
 intro ss kk;refine go ?_;refine WO.dec rfl ?_
 apply WD.inv (s:=ss);(case hκ=>exact rfl);(case hx=>exact rfl);(case Xq=>exact rfl);(case hT=>exact aD);(case ht=>exact rfl);(case hf=>exact rfl);(case hm=>(show mtd prog _ _=some _;kernel_rfl));(case hv=>(first | exact rfl | (simp;done) | (congr;done)));(case hs=>exact aa);exact kk.out):G:=h s ⟨k⟩
end Go.Proofs.YtpabnmeponmonaaGreatDoor
namespace Go.Sl
structure T3 (σ:Type) where
 s0:σ
 nx:σ->List Value->σ->Prop
 sk:σ->σ->Prop
 fi:σ->Prop
def OR {σ:Type}(P:Program)(g:FuncId)(cap:List Value)(Cs B0:List Chunk)(I:T3 σ):Prop :=
 ∀(w0:World) (As:List Chunk) (J:σ->List Chunk->Prop) (pE:List Chunk->Prop) (l:Nat) (rc:Loop) (w:World) (Ls:List Chunk),
  St w0 As w ([(l,.loop rc)] :: (Cs++Ls))->(∀C∈B0,C∈Ls)->J I.s0 Ls->(∀s s' Ls,I.sk s s'->J s Ls->J s' Ls) ->
  (∀s vs s' Ls w,I.nx s vs s'->J s Ls->St w0 As w ([(l,.loop rc)] :: (Cs++Ls))->vs.length=rc.params.size /\
   RoundIn Fence.wide 0 P l rc.fn ((rc.params.zip vs.toArray).foldl (fun tmps x=>tmps.setIfInBounds x.1 x.2) rc.tmps) rc.assign rc.body w fun en w' =>
    (en = .returned (.bool true)/\∃bm,St w0 As w' ([(l,.loop rc)] :: (Cs++bm))/\J s' bm)\/(en = .returned (.bool false)/\∃bm,St w0 As w' ([(l,.loop (y4 rc))] :: (Cs++bm))/\pE bm)) ->
  CallsIn Fence.wide 0 P g (.func (.yield l) #[] #[] :: cap).toArray w fun en w'=>∃v,en = .returned v /\
   ((∃s bm,I.fi s/\St w0 As w' ([(l,.loop rc)] :: (Cs++bm))/\J s bm)\/(∃bm,St w0 As w' ([(l,.loop (y4 rc))] :: (Cs++bm))/\pE bm))
section
variable {P:Program}{T:aW}{w0:World}{As:List Chunk}{f:Fx}{k:Kt}{e:Env}{Ls Rs:List Chunk}
theorem WS.Zu {σ:Type}{Xr:Operand}{ps:List Nat}{assign body:Code}{g:FuncId}{fn:Func}{cap:List Value}{Cs B0:List Chunk}{I:T3 σ}(hI:OR P g cap Cs B0 I)(J:σ->List Chunk->Prop)(pE:List Chunk->Prop)(hk:k.plain=true)
  (hg:ev e Xr=some (.func (.func g) #[] cap.toArray)) (hT:T.Ok P) (hf:Am T g=some fn) (hs:iv Ls Cs Rs) (hB:∀C∈B0,C∈Rs) (h0:J I.s0 Rs) (hsk:∀s s' Ls,I.sk s s'->J s Ls->J s' Ls)
  (hr:∀rc l r s vs s' bm,I.nx s vs s'->J s bm->∃V,S9 f.n ps vs V/\WS ⟨P,T,w0,As,some l,[]⟩ f assign (Ka P w0 As Cs l r rc (J s') pE body) (V++e) ([(l,.loop rc)] :: (Cs++([(r,.deferred (some []))] :: bm))))
  (hy:∀r s bm,I.fi s->J s bm->WE ⟨P,T,w0,As,none,[⟨.collected r,#[]⟩]⟩ f .normal k e ([(r,.deferred (some []))] :: (Cs++bm)))
  (hn:∀r bm,pE bm->WE ⟨P,T,w0,As,none,[⟨.collected r,#[]⟩]⟩ f .ret k e ([(r,.deferred (some []))] :: (Cs++bm))):WS ⟨P,T,w0,As,none,[]⟩ f (.rangeFunc Xr ps.toArray assign body) k e Ls:=⟨fun a w E S=>by
 obtain ⟨f1,f2,f3⟩:=qC hT hf
 refine (wpIn_wide (n:=0)).2 (y5 E (S.tt hs) hg f1 f2 f3 fun rc l r w1 hL S1 => ?_)
 have pe:∀ {x y:Chunk} {A B:List Chunk},(x :: y :: (A++B)).Perm (x :: (A++(y :: B))):=fun {x y A B}=>(perm_middle.symm).cons x
 have pi:∀ {x y:Chunk} {A B:List Chunk},(x :: (A++(y :: B))).Perm (x :: y :: (A++B)):=fun {x y A B}=>(perm_middle).cons x
 have S1':St w0 As w1 ([(l,.loop rc)] :: (Cs++([(r,.deferred (some []))] :: Rs))):=S1.perm pe
 refine CallsIn.mono (hI w0 As (fun s L=>∃L0,L=[(r,.deferred (some []))] :: L0/\J s L0) (fun L=>∃L0,L=[(r,.deferred (some []))] :: L0/\pE L0) l rc w1 _ S1' (fun C hC=>mem_cons_of_mem _ (hB C hC)) ⟨Rs,rfl,h0⟩ ?_ ?_) ?_
 ·rintro s s' _ hs ⟨L0,rfl,hJ⟩;exact ⟨L0,rfl,hsk s s' L0 hs hJ⟩
 ·rintro s vs s' _ w2 rR ⟨L0,rfl,hJ⟩ S2
  obtain ⟨V,hp,hW⟩:=hr rc l r s vs s' L0 rR hJ
  refine ⟨by rw [hL.pr];simpa using hp.len.symm, ?_⟩
  refine RoundIn.mono (OH (R:=RE P w0 As Cs l r rc (J s') pE) hL S2 E hp fun a2 E2=>hW.ap a2 w2 E2 S2) ?_
  rintro en w3 (⟨rfl,L',S3,Zv⟩ | ⟨rfl,L',S3,Zv⟩)
  ·exact .inl ⟨rfl,_,S3,L',rfl,Zv⟩
  ·exact .inr ⟨rfl,_,S3,L',rfl,Zv⟩
 ·rintro en w3 ⟨v,rfl,⟨s,_,Ck,S3,L0,rfl,hJ⟩ | ⟨_,S3,L0,rfl,hJ⟩⟩
  ·refine ⟨v,rfl,.inl ⟨_,S3.perm pi,fun w4 S4 a' E' => ?_⟩⟩
   have:=(hy r s L0 Ck hJ).ap a' w4 E' S4
   rwa [Kt.OG hk] at this
  ·refine ⟨v,rfl,.inr ⟨_,S3.perm pi,fun w4 S4 a' E' => ?_⟩⟩
   have:=(hn r L0 hJ).ap a' w4 E' S4
   rwa [Kt.OG hk] at this⟩
structure JP {σ:Type}(J:σ->List Chunk->Prop)(pE:List Chunk->Prop):Prop
theorem WS.Zw {σ:Type}{Xr:Operand}{ps:List Nat}{assign body:Code}{g:FuncId}{fn:Func}{cap:List Value}{Cs B0:List Chunk}{I:T3 σ}(hI:OR P g cap Cs B0 I){J:σ->List Chunk->Prop}{pE:List Chunk->Prop}(_:JP J pE)(hk:k.plain=true)
  (hg:ev e Xr=some (.func (.func g) #[] cap.toArray)) (hT:T.Ok P) (hf:Am T g=some fn) (hs:iv Ls Cs Rs) (hB:∀C∈B0,C∈Rs) (h0:J I.s0 Rs) (hsk:∀s s' Ls,I.sk s s'->J s Ls->J s' Ls)
  (hr:∀rc l r s vs s' bm,I.nx s vs s'->J s bm->∃V,S9 f.n ps vs V/\WS ⟨P,T,w0,As,some l,[]⟩ f assign (Ka P w0 As Cs l r rc (J s') pE body) (V++e) ([(l,.loop rc)] :: (Cs++([(r,.deferred (some []))] :: bm))))
  (hy:∀r s bm,I.fi s->J s bm->WE ⟨P,T,w0,As,none,[⟨.collected r,#[]⟩]⟩ f .normal k e ([(r,.deferred (some []))] :: (Cs++bm)))
  (hn:∀r bm,pE bm->WE ⟨P,T,w0,As,none,[⟨.collected r,#[]⟩]⟩ f .ret k e ([(r,.deferred (some []))] :: (Cs++bm))):WS ⟨P,T,w0,As,none,[]⟩ f (.rangeFunc Xr ps.toArray assign body) k e Ls:=WS.Zu hI J pE hk hg hT hf hs hB h0 hsk hr hy hn
end
end Go.Sl
namespace Go.Proofs.YtpabnmeponmonaaGreatDoor
theorem stM {g:FuncId}{args:List Value}{As:List Chunk}{cB:Value->List Chunk->Prop}{fn:Func}{c:Code}{n:Nat}{e:Env}(hf:prog.funcs[g]? = some fn)(h:∀w0,WS ⟨prog,KR,w0,As,none,[]⟩ ⟨fn,n,sw cB⟩ c (TS prog w0 As fn cB) e As)
 (hb:fn.body=some c:=by exact rfl) (hn:fn.ntmps=n:=by exact rfl) (hs:Nat.ble args.length n=true:=by exact rfl) (he:num 0 args=e:=by exact Zn):Ct g args As cB:=Np.mkM (T:=KR) hf hb hn hs he h
theorem gfr {G H1 H2 H3 H4 H5:Prop}{σ:Type}{g:FuncId}{cap:List Value}{Cs B0:List Chunk}{I:T3 σ}(hI:OR prog g cap Cs B0 I)(J:σ->List Chunk->Prop)(pE:List Chunk->Prop)(k1:H1)(k2:H2)(k3:H3)(k4:H4)(k5:H5)(h:OR prog g cap Cs B0 I->JP J pE->im H1->im H2->im H3->im H4->im H5->G:=by
 intro hi jp k1 k2 k3 k4 k5;refine go ?_
 apply WS.Zw hi jp;exact rfl;exact rfl;exact aD;exact rfl;exact aa;(repeat (first | exact OJ | (apply OK;exact mem)));exact k1.out;exact k2.out;exact k3.out;exact k4.out;exact k5.out):G:=h hI ⟨⟩ ⟨k1⟩ ⟨k2⟩ ⟨k3⟩ ⟨k4⟩ ⟨k5⟩
theorem gas {G H:Prop}(k:H)(h:im H->G:=by intro kk;refine go ?_;refine WE.asg ?_;exact kk.out):G:=h ⟨k⟩
theorem gm1 {G H:Prop}(k:H)(h:im H->G:=by
 intro kk;refine go ?_;(try refine WE.ags ?_);(try refine vH ?_)
 first
 | (apply WE.abK;exact rfl;exact rfl;exact rfl;exact TY;exact pick;exact kk.out)
 | (apply WE.Ze;exact rfl;exact aD;exact rfl;exact pick;exact rrs;exact TY;exact kk.out)):G:=h ⟨k⟩
structure KI (i:IntKind):Prop
section
variable {X:Cx}{f:Fx}{k:Kt}{e:Env}{Ls Ms:List Chunk}{ops:List Oper}{r':aB}{κ d:Nat}{t:TypeId}
theorem WD.aeO {el tx:TypeId}{x y:Operand}{ja m s:Nat}{kk:IntKind}{q:Int}{zv:Value}(hκ:dR κ=true)(hx:ev e x=some (.slice none 0 0))(hy:ev e y=some (.int kk q))(hT:X.T.Ok X.P)(hq:q=(m:Int))(hi:I1 X.T t=some (el,s,ja,zv))(xU:X.T.kW tx=some (.int kk))(hb:0<s/\0<m/\m<=9223372036854775807/\m*ja<=140737488355328)
  (hM:cZ κ Ms Ls) (g:∀g c l,m<=c->c<=maxLen->l.length=c*s->WO X f ops k Ms r' ((d,.slice (some ⟨g,0,none⟩) m c) :: e) ([(g,ax l el)] :: Ls)):WD X f ops k Ms κ (some d) (.call ⟨.builtin .append,⟨[x,y]⟩,⟨[t,tx]⟩⟩) r' e Ls:=by
 obtain ⟨i,g1,g2,g3,g4,g5,g6⟩:=jb hT hi
 exact .ac hκ fun _ _ w ho hd hn E S=>GB E S ho hd (hn d rfl) hx hy hq g1 (aW.aU hT xU) g2 g3 g4 g5 g6 hb.1 hb.2.1 hb.2.2.1 hb.2.2.2 fun _ _ b c l E' S' h1 h2 h3=>KO.mk rfl (fun h C hC=>mem_cons_of_mem _ (hM h C hC)) (g b c l h1 h2 h3) E' S'
theorem WD.Zx {i:IntKind}(_:KI i)(hκ:dR κ=true)(hM:cZ κ Ms Ls)(g:∀r C,Mp r i [] C->WO X f ops k Ms r' ((d,.map (some r)) :: e) (C :: Ls)):WD X f ops k Ms κ (some d) (.makeMap t none) r' e Ls:=.mkMap hκ i hM g
end
theorem vY {G H:Prop}(i:IntKind)(k:H)(h:KI i->im H->G:=by
 intro ki kk;refine go ?_;refine WO.dec rfl ?_
 apply WD.Zx ki;exact rfl;exact keeps;exact kk.out):G:=h ⟨⟩ ⟨k⟩
theorem gpz {G H:Prop}(k:H)(h:im H->G:=by
 intro kk;refine go ?_;refine WO.dec rfl ?_
 apply WD.aeO;exact rfl;exact rfl;exact rfl;exact aD;exact nn;exact rfl;exact rfl;(refine ⟨?_, ?_, ?_, ?_⟩ <;> omega);exact keeps;exact kk.out):G:=h ⟨k⟩
section
variable {X:Cx}{f:Fx}{k:Kt}{e:Env}{Ls Ms:List Chunk}{ops:List Oper}{r':aB}{κ d:Nat}{t:TypeId}
theorem WD.ab1 {el:TypeId}{x y:Operand}{zv:Value}{ja m s:Nat}{kl kc:IntKind}{q q':Int}(hκ:dR κ=true)(hx:ev e x=some (.int kl q))(hy:ev e y=some (.int kc q'))(hT:X.T.Ok X.P)(hi:I1 X.T t=some (el,s,ja,zv))(hq:q=0)(nW:q'=(m:Int))(hb:ja*m<=281474976710656/\m<=maxLen)
  (hM:cZ κ Ms Ls) (g:∀b C,aC C el s (.slice (some ⟨b,0,none⟩) 0 m) 0 []->WO X f ops k Ms r' ((d,.slice (some ⟨b,0,none⟩) 0 m) :: e) (C :: Ls)):WD X f ops k Ms κ (some d) (.makeSlice t x y) r' e Ls:=by
 obtain ⟨i,g1,g2,g3,g4,g5,g6⟩:=jb hT hi
 subst hq nW g4 g6
 refine .ac hκ fun o a w ho hd hn E S => ?_
 have u9:(m:Int)<=9223372036854775807:=by have:=hb.2;simp only [maxLen] at this;omega
 have Ks:(i.bytes:Int)*(m:Int)<=281474976710656:=by
  have h:((i.bytes*m:Nat):Int)<=281474976710656:=oZ
  rwa [Int.natCast_mul] at h
 have hr:=run_make (P:=X.P) (w:=w) t el i zv g1 g2 g3 kl kc 0 m (Int.le_refl _) oZ Ks u9
 simp only [Int.toNat_natCast] at hr
 have dQ:ab X.P o a w (.slice (some ⟨w.heap.size,0,none⟩) 0 m) (w.alloc (.cells (madeCells zv.cells (m*i.size)) el)):=by
  simp [ab,execOp,ho,E.eval hx,E.eval hy,hr]
 refine dQ.wp ?_
 rw [hd]
 refine KO.mk rfl (fun h C hC=>mem_cons_of_mem _ (hM h C hC)) (g w.heap.size [(w.heap.size,.cells (madeCells zv.cells (m*i.size)) el)] ?_) (E.put (hn d rfl) _) (S.alloc _)
 have hlen:(kU zv.cells (m*i.size)).length=m*i.size:=by simp [kU,madeCells]
 exact ⟨by simp,by simp,.inr ⟨w.heap.size,m,kU zv.cells (m*i.size),rfl,by simp [kU],by omega,hb.2,by simp [hlen]⟩⟩
end
theorem aeP {G H:Prop}(k:H)(h:im H->G:=by
 intro kk;refine go ?_;refine WO.dec rfl ?_
 apply WD.ab1;exact rfl;exact rfl;exact rfl;exact aD;exact rfl;exact rfl;exact nn;exact szs;exact keeps;exact kk.out):G:=h ⟨k⟩
end Go.Proofs.YtpabnmeponmonaaGreatDoor
namespace Go.Sl
section
variable {P:Program}
theorem Dt {D d:Nat}{F:TypeId->List Value->List Value->Option Bool}(hF:F=cj P d)(w:World)(em:Bool)
  (ih:∀t us vs r u,cj P d t us vs=some r->eI P t us=some u->(Instr.checkKey em D t u).run P w = .ok () w) :
  ∀(fs:List Field) (us vs:List Value) (r:Bool),si P F fs us vs=some r ->
   ((forIn fs PUnit.unit fun f _=>if f.name ≠ "_" then do Instr.checkKey em D f.type (<- part f.type us.toArray f.offset);pure (ForInStep.yield PUnit.unit) else pure (ForInStep.yield PUnit.unit):Sem PUnit)).run P w = .ok () w
 | [],us,vs,r,h=>by simp
 | f :: fs,us,vs,r,h=>by
  subst hF
  unfold si at h
  cases hn:(f.name == "_") with
  | true=>simp [hn] at h
  | false =>
   simp only [hn,cond_false] at h
   have ey:f.name ≠ "_":=by simpa using hn
   cases hi:P.info? f.type with
   | none=>simp [hi] at h
   | some i =>
    simp only [hi] at h
    cases hl:(Nat.blt us.length (f.offset+i.size)||Nat.blt vs.length (f.offset+i.size)) with
    | true=>simp [hl] at h
    | false =>
     simp only [hl,cond_false] at h
     have uk:f.offset+i.size<=us.length:=by
      simp only [Bool.or_eq_false_iff] at hl
      have h1:=hl.1
      rw [<-Bool.not_eq_true,Nat.blt_eq] at h1
      omega
     cases hp:cj P d f.type ((us.drop f.offset).take i.size) ((vs.drop f.offset).take i.size) with
     | none=>simp [hp] at h
     | some p =>
      simp only [hp] at h
      obtain ⟨hu,⟨u,IM⟩, -⟩:=pg hp
      have e1:=vm w hi hu uk IM
      have e2:=ih _ _ _ _ _ hp IM
      have ph:∃q,si P (cj P d) fs us vs=some q:=by
       cases fs with
       | nil=>exact ⟨true,rfl⟩
       | cons g gs =>
        simp only at h
        cases hq:si P (cj P d) (g :: gs) us vs with
        | none=>simp [hq] at h
        | some q=>exact ⟨q,rfl⟩
      obtain ⟨q,hq⟩:=ph
      simp only [forIn_cons,Sem.run_bind,ey,ne_eq,not_false_eq_true,if_true,Result.andThen_ok,e1,e2,Sem.run_pure]
      exact Dt rfl w em ih fs us vs q hq
theorem tu (w:World)(em:Bool):∀(d j:Nat) (t:TypeId) (us vs:List Value) (r:Bool) (u:Value),cj P d t us vs=some r->eI P t us=some u->(Instr.checkKey em (d+j) t u).run P w = .ok () w
 | 0,_,_,_,_,_,_,h,_=>by cases h
 | d+1,j,t,us,vs,r,u,h,hu=>by
  unfold cj at h
  rw [show d+1+j=(d+j)+1 by omega]
  split at h
  ·rename_i k0 hk
   simp [Instr.checkKey,run_underlying hk]
  ·rename_i hk
   simp [Instr.checkKey,run_underlying hk]
  ·rename_i fs hk
   have hb:dI P t=true:=by simp [dI,hk]
   simp only [eI,hb,cond_true,Option.some.injEq] at hu
   subst hu
   rw [Instr.checkKey]
   simp only [Sem.run_bind,run_underlying hk,Result.andThen_ok]
   rw [<-Array.forIn_toList]
   have q:=Dt rfl w em (fun t us vs r u h1 h2=>tu w em d j t us vs r u h1 h2) fs.toList us vs r h
   rw [q];simp
  ·cases h
end
def Du {α:Type}(lay:α->List Value)(r:Nat)(L:List α)(C:Chunk):Prop:=∃(es:List MapEntry) (clock:Nat),es.map (fun m=>(m.key,m.val))=L.map (fun u=>(Value.agg (lay u).toArray,Value.bool true))/\C=[(r,.map es.toArray clock)]
theorem Du.start {α:Type}{lay:α->List Value}{r:Nat}{k:IntKind}{C:Chunk}(h:Mp r k [] C):Du lay r [] C:=by
 obtain ⟨Ms,clock,h1, -,rfl⟩:=h
 rw [map_eq_nil_iff] at h1
 subst h1
 exact ⟨[],clock,rfl,rfl⟩
structure sy {α:Type}[DecidableEq α](T:aW)(P:Program)(kt:TypeId)(lay:α->List Value):Prop where
 eq:∀x y,Y5 T 8 kt (lay x) (lay y)=some (decide (x=y))
 nh:lT P 8 kt=true
 ag:dI P kt=true
 st:∃fs,T.kW kt=some (.struct fs)
 sb:∀x,Instr.sameBits 10000 (.agg (lay x).toArray) (.agg (lay x).toArray)=true
section
variable {α:Type}[DecidableEq α]{T:aW}{P:Program}{kt t et:TypeId}{lay:α->List Value}{w:World}
theorem sy.equal (h:sy T P kt lay)(hT:T.Ok P)(x y:α):(Op.equal kt (.agg (lay x).toArray) (.agg (lay y).toArray)).run P w = .ok (decide (x=y)) w :=
 kr w 8 9992 kt _ _ _ _ _ (vK hT _ _ _ _ _ (h.eq x y)) h.nh (by simp only [eI,h.ag,cond_true]) (by simp only [eI,h.ag,cond_true])
theorem sy.check (h:sy T P kt lay)(hT:T.Ok P)(x:α)(em:Bool):(Instr.checkKey em 10000 kt (.agg (lay x).toArray)).run P w = .ok () w :=
 tu w em 8 9992 kt _ _ _ _ (vK hT _ _ _ _ _ (h.eq x x)) (by simp only [eI,h.ag,cond_true])
theorem sy.find (h:sy T P kt lay)(hT:T.Ok P)(x:α):∀(L:List α) (es:List MapEntry) (i:Nat),es.map (fun m=>(m.key,m.val))=L.map (fun u=>(Value.agg (lay u).toArray,Value.bool true)) ->
  ((Instr.findAsking kt (.agg (lay x).toArray) es i).run P w = .ok none w/\x∉L)\/∃A m B,es=A++m :: B/\m.key = .agg (lay x).toArray/\m.val = .bool true/\x∈L/\(Instr.findAsking kt (.agg (lay x).toArray) es i).run P w = .ok (some (i+A.length,.bool true)) w
 | [],es,i,he=>by
  rw [map_nil,map_eq_nil_iff] at he
  subst he
  exact .inl ⟨by simp [Instr.findAsking],by simp⟩
 | y :: L,[],i,he=>by cases he
 | y :: L,m :: es,i,he=>by
  simp only [map_cons,List.cons.injEq,Prod.mk.injEq] at he
  obtain ⟨⟨hk,hv⟩,he⟩:=he
  have e1:=h.equal (w:=w) hT x y
  by_cases c:x=y
  ·subst c
   refine .inr ⟨[],m,es,rfl,hk,hv,by simp, ?_⟩
   simp [Instr.findAsking,hk,e1,hv]
  ·have e1:(Op.equal kt (.agg (lay x).toArray) m.key).run P w = .ok false w:=by rw [hk,e1];simp [c]
   rcases h.find hT x L es (i+1) he with ⟨q1,q2⟩ | ⟨A,n,B,rfl,q2,q3,q4,q5⟩
   ·exact .inl ⟨by simp [Instr.findAsking,e1,q1],by simp [c,q2]⟩
   ·refine .inr ⟨m :: A,n,B,rfl,q2,q3,mem_cons_of_mem _ q4, ?_⟩
    rw [show i+(m :: A).length=i+1+A.length by simp only [length_cons];omega]
    simp [Instr.findAsking,e1,q5]
theorem sy.findKey (h:sy T P kt lay)(hT:T.Ok P)(x:Value)(es:List MapEntry):(Instr.findKey kt x es).run P w=(Instr.findAsking kt x es).run P w:=by
 obtain ⟨fs,hs⟩:=h.st
 have hu:=aW.aU hT hs
 cases es with
 | nil=>simp [Instr.findKey,run_underlying hu,Instr.findNow,Instr.findAsking]
 | cons e es=>simp [Instr.findKey,run_underlying hu,Instr.findNow,Instr.sameNow]
end
def mpA (T:aW)(t:TypeId):Option (TypeId×TypeId):=match T.kW t with
 | some (.map kt et)=>some (kt,et)
 | _=>none
theorem OS {P:Program}{T:aW}(hT:T.Ok P){t kt et:TypeId}(h:mpA T t=some (kt,et)):P.underlying t=some (.map kt et):=by
 unfold mpA at h
 split at h
 ·rename_i h1;cases h;exact aW.aU hT h1
 ·cases h
section
variable {X:Cx}{f:Fx}{k:Kt}{e:Env}{Ls Rs:List Chunk}{ops:List Oper}{Ms:List Chunk}{r':aB}{κ d:Nat}{v:Value}{t kt et:TypeId}{x y z:Operand}{r:Nat}{C:Chunk}
variable {α:Type}[DecidableEq α]{lay:α->List Value}{L:List α}{u:α}
theorem WD.lkS (hκ:calm κ=true)(hx:ev e x=some (.map (some r)))(hy:ev e y=some (.agg (lay u).toArray))(hT:X.T.Ok X.P)(ht:mpA X.T t=some (kt,et))(hz:zv X.T et=some (.bool false))(hK:sy X.T X.P kt lay)(hC:Du lay r L C)(hm:C∈Ag κ Ms Ls)
  (g:WO X f ops k Ms r' ((d,.bool (decide (u∈L))) :: e) Ls):WD X f ops k Ms κ (some d) (.lookup t x y false) r' e Ls:=by
 have h1:=OS hT ht
 obtain ⟨es,clock,he,rfl⟩:=hC
 refine .rd hκ (fun a _ w ho E S => ?_) g
 have hb:=S.one hm
 unfold zv at hz
 split at hz
 ·rename_i i hi
  have hi:=hT.ty _ _ hi
  rcases hK.find (w:=w) hT u L es 0 he with ⟨q1,q2⟩ | ⟨A,n,B,rfl,q2,q3,q4,q5⟩
  ·rw [decide_eq_false q2]
   simp [ab,execOp,ho,E.eval hx,E.eval hy,Instr.lookup,run_underlying h1,Go.MapKept.run_getObj_map hb,hK.check hT,hK.findKey hT,q1,zeroValue,typeInfo,hi,hz]
  ·rw [decide_eq_true q4]
   simp [ab,execOp,ho,E.eval hx,E.eval hy,Instr.lookup,run_underlying h1,Go.MapKept.run_getObj_map hb,hK.check hT,hK.findKey hT] at q5 ⊢
   simp [q5]
 ·cases hz
theorem WD.ab2 (hκ:dR κ=true)(hx:ev e x=some (.map (some r)))(hy:ev e y=some (.agg (lay u).toArray))(hz:ev e z=some (.bool true))(hT:X.T.Ok X.P)(ht:mpA X.T t=some (kt,et))(hK:sy X.T X.P kt lay)(hC:Du lay r L C)(hp:Ls.Perm (C :: Rs))
  (hM:cZ κ Ms Rs) (g:∀C',Du lay r (if u∈L then L else L++[u]) C'->WO X f ops k Ms r' e (C' :: Rs)):WD X f ops k Ms κ none (.mapUpdate t x y z) r' e Ls:=by
 have h1:=OS hT ht
 obtain ⟨es,clock,he,rfl⟩:=hC
 refine .ac hκ fun a _ w ho hd _ E S => ?_
 have hb:=S.get hp
 rcases hK.find (w:=w) hT u L es 0 he with ⟨q1,q2⟩ | ⟨A,n,B,rfl,q2,q3,q4,q5⟩
 ·rw [if_neg q2] at g
  refine jg.wp (w':={ w with heap:=w.heap.setIfInBounds r (.map (es.toArray.push { key:=.agg (lay u).toArray,val:=.bool true,born:=clock }) (clock+1)) }) ?_ ?_
  ·unfold jg
   simp [execOp,ho,E.eval hx,E.eval hy,E.eval hz,Instr.mapUpdate,run_underlying h1,Go.MapKept.run_getObj_map hb,hK.check hT,hK.findKey hT,q1,Go.MapKept.run_setObj_map _ hb]
  ·rw [hd]
   refine KO.mk rfl (fun h C hC=>mem_cons_of_mem _ (hM h C hC)) (g _ ⟨es++[{ key:=.agg (lay u).toArray,val:=.bool true,born:=clock }],clock+1,by simp [he],rfl⟩) (E.CH _) ?_
   have:=bQ (ob':=.map (es.toArray.push { key:=.agg (lay u).toArray,val:=.bool true,born:=clock }) (clock+1)) S hp
   simpa using this
 ·rw [if_pos q4] at g
  obtain ⟨bk,bv,bb⟩:=n
  simp only at q2 q3
  subst q2 q3
  have bB:((Instr.keyThatStays (.agg (lay u).toArray) (.agg (lay u).toArray))).run X.P w = .ok (.agg (lay u).toArray) w:=by simp [Instr.keyThatStays,hK.sb]
  have S5:(A++({ key:=.agg (lay u).toArray,val:=.bool true,born:=bb }:MapEntry) :: B).toArray.modify A.length (fun e=>{ e with key:=.agg (lay u).toArray,val:=.bool true })=(A++({ key:=.agg (lay u).toArray,val:=.bool true,born:=bb }:MapEntry) :: B).toArray:=by
   apply Array.ext
   ·simp
   ·intro i h1 h2
    rw [Array.getElem_modify]
    split
    ·rename_i c;subst c;simp
    ·rfl
  have hj:((A++({ key:=.agg (lay u).toArray,val:=.bool true,born:=bb }:MapEntry) :: B).toArray)[A.length]? = some { key:=.agg (lay u).toArray,val:=.bool true,born:=bb }:=by simp
  refine jg.wp (w':={ w with heap:=w.heap.setIfInBounds r (.map (A++({ key:=.agg (lay u).toArray,val:=.bool true,born:=bb }:MapEntry) :: B).toArray clock) }) ?_ ?_
  ·unfold jg
   rw [Nat.zero_add] at q5
   have e1:=hK.findKey (w:=w) hT (.agg (lay u).toArray) (A++({ key:=.agg (lay u).toArray,val:=.bool true,born:=bb }:MapEntry) :: B)
   rw [q5] at e1
   generalize hG:(A++({ key:=.agg (lay u).toArray,val:=.bool true,born:=bb }:MapEntry) :: B)=G at *
   simp only [execOp,ho,E.eval hx,E.eval hy,E.eval hz,Instr.mapUpdate,run_underlying h1,Go.MapKept.run_getObj_map hb,hK.check hT,e1,Sem.run_bind,Result.andThen_ok,hj,Option.map_some,Option.getD_some,bB,S5,Go.MapKept.run_setObj_map _ hb,Sem.run_pure]
  ·rw [hd]
   exact KO.mk rfl (fun h C hC=>mem_cons_of_mem _ (hM h C hC)) (g _ ⟨_,clock,he,rfl⟩) (E.CH _) (bQ S hp)
end
def MpE (r it:Nat)(k:IntKind)(L:List (Int×Value))(C D:Chunk)(q:Int)(v:Value):Prop:=∃(Ms:List Me) (clock since:Nat) (seen:Array Nat) (m:Me),Ms.map kv=L/\vv Ms clock/\C=[(r,.map (jG k Ms) clock)]/\D=[(it,.mapIter (some r) since (seen.push m.born) clock)]/\m∈Ms/\m.key=q/\m.val=v
section
variable {X:Cx}{f:Fx}{k:Kt}{e:Env}{Ls Rs:List Chunk}{ops:List Oper}{Ms:List Chunk}{r':aB}{κ d:Nat}{v:Value}{t et:TypeId}{x y z:Operand}{r:Nat}{kk:IntKind}{L:List (Int×Value)}{q:Int}{C D:Chunk}
theorem WD.ab3 {it:Nat}{rest:List (Int×Value)}(hκ:dR κ=true)(hx:ev e x=some (ptr it))(hC:y8 r it kk L rest C D)(hp:Ls.Perm (D :: C :: Rs))
  (hM:cZ κ Ms (C :: Rs))
  (g0:rest=[]->WO X f ops k Ms r' ((d,.tuple #[.bool false]) :: e) (D :: C :: Rs))
  (g1:∀A q v B D',rest=A++(q,v) :: B->kx L q=some v->y8 r it kk L (A++B) C D'->MpE r it kk L C D' q v->WO X f ops k Ms r' ((d,.tuple #[.bool true,.int kk q,v]) :: e) (D' :: C :: Rs)):WD X f ops k Ms κ (some d) (.next x false) r' e Ls:=by
 obtain ⟨es,clock,since,seen,last,rfl,oG,rfl,rfl,hb,hs,I2,rfl⟩:=hC
 refine .ac hκ fun _ _ _ ho hd hn E S=>Da E S ho hd (hn d rfl) hx hp hb hs fun _ _ u E' h => ?_
 have hK:∀D',cZ κ Ms (D' :: [(r,.map (jG kk es) clock)] :: Rs):=fun D' h C hC=>mem_cons_of_mem _ (hM h C hC)
 rcases h with ⟨rfl,h2,S'⟩ | ⟨m,hm,hns,rfl,S'⟩
 ·refine KO.mk rfl (hK _) (g0 ?_) E' S'
  rw [map_eq_nil_iff,filter_eq_nil_iff]
  intro m hm;simpa using h2 m hm
 ·obtain ⟨A,B,Zy⟩:=append_of_mem (mem_filter.2 ⟨hm,by simpa using hns⟩:m∈es.filter fun z => !seen.contains z.born)
  have Cl:((es.filter fun z => !seen.contains z.born).map (·.born)).Nodup:=(filter_sublist.map _).nodup oG.nb
  have ph:((es.filter fun z => !(seen.push m.born).contains z.born)).map kv=A.map kv++B.map kv:=by
   have e1:(es.filter fun z => !(seen.push m.born).contains z.born)=(es.filter fun z => !seen.contains z.born).filter fun z=>z.born != m.born:=by
    rw [filter_filter]
    apply filter_congr
    intro z _
    simp only [Array.contains_push,Bool.not_or,bne]
    rw [Bool.and_comm]
   rw [Zy] at Cl
   rw [map_append,map_cons,nodup_append] at Cl
   obtain ⟨n1,n2,n3⟩:=Cl
   rw [nodup_cons] at n2
   rw [e1,Zy,filter_append,filter_cons_of_neg (by simp),<-map_append]
   congr 2
   ·rw [filter_eq_self];intro z hz;simpa using fun q=>n3 _ (mem_map_of_mem hz) _ (mem_cons_self ..) q
   ·rw [filter_eq_self];intro z hz;simpa using fun q=>n2.1 (by rw [<-q];exact mem_map_of_mem hz)
  have iy:kx (es.map kv) m.key=some m.val:=by
   obtain ⟨A',B',rfl⟩:=append_of_mem hm
   have yl:=oG.nk
   rw [map_append,map_cons,nodup_append] at yl
   have eo:(A'.map kv).find? (fun e=>e.1==m.key)=none:=by
    rw [find?_eq_none]
    intro e he
    obtain ⟨z,hz,rfl⟩:=mem_map.1 he
    simpa [kv] using fun q=>yl.2.2 _ (mem_map_of_mem hz) _ (mem_cons_self ..) q
   simp [kx,find?_append,eo,kv]
  refine KO.mk rfl (hK _) (g1 (A.map kv) m.key m.val (B.map kv) _ (by rw [Zy];simp [kv]) iy ⟨es,clock,since,seen.push m.born,clock,rfl,oG,rfl,rfl,hb,I2,I2,ph.symm⟩ ⟨es,clock,since,seen,m,rfl,oG,rfl,rfl,hm,rfl,rfl⟩) E' S'
theorem WD.Zz {it:Nat}(hκ:dR κ=true)(hx:ev e x=some (ptr it))(hC:MpE r it kk L C D q v)(hp:Ls.Perm (D :: C :: Rs))(hM:cZ κ Ms Ls)
  (g:WO X f ops k Ms r' ((d,.tuple #[.int kk q,v]) :: e) Ls):WD X f ops k Ms κ (some d) (.entry x) r' e Ls:=by
 obtain ⟨es,clock,since,seen,m,rfl,oG,rfl,rfl,hm,rfl,rfl⟩:=hC
 refine .ac hκ fun _ _ w ho hd hn E S => ?_
 have hi:=S.get hp
 have hb:=S.get (hp.trans (List.Perm.swap _ _ _))
 refine (Db E ho hx hi hb hm oG.nb).wp ?_
 rw [hd]
 exact KO.mk rfl hM g (E.put (hn d rfl) _) S
end
end Go.Sl
namespace Go.Proofs.YtpabnmeponmonaaGreatDoor
theorem OT {G H1 H2:Prop}(k1:H1)(k2:H2)(h:im H1->im H2->G:=by
 intro k1 k2;refine go ?_;refine WO.dec rfl ?_
 apply WD.ab3;exact rfl;exact rfl;assumption;exact I3;exact keeps;exact k1.out;exact k2.out):G:=h ⟨k1⟩ ⟨k2⟩
theorem OU {G H:Prop}(k:H)(h:im H->G:=by
 intro kk;refine go ?_;refine WO.dec rfl ?_
 apply WD.Zz;exact rfl;exact rfl;assumption;exact I3;exact keeps;exact kk.out):G:=h ⟨k⟩
end Go.Proofs.YtpabnmeponmonaaGreatDoor
namespace Go.Sl
def T4 {σ:Type}(P:Program)(g:FuncId)(cap:List Value)(Cs B0:List Chunk)(I:T3 σ):Prop :=
 ∀(w0:World) (As:List Chunk) (J:σ->List Chunk->Prop) (l:Nat) (rc:Loop) (w:World) (Ls:List Chunk),
  St w0 As w ([(l,.loop rc)] :: (Cs++Ls))->(∀C∈B0,C∈Ls)->J I.s0 Ls ->
  (∀s vs s' Ls w X,I.nx s vs s'->J s Ls->St w0 As w ([(l,.loop rc)] :: (X :: (Cs++Ls)))->vs.length=rc.params.size /\
   RoundIn Fence.wide 0 P l rc.fn ((rc.params.zip vs.toArray).foldl (fun tmps x=>tmps.setIfInBounds x.1 x.2) rc.tmps) rc.assign rc.body w fun en w' =>
    en = .returned (.bool true)/\∃bm,St w0 As w' ([(l,.loop rc)] :: (X :: (Cs++bm)))/\J s' bm) ->
  CallsIn Fence.wide 0 P g (.func (.yield l) #[] #[] :: cap).toArray w fun en w'=>∃v,en = .returned v /\
   ∃s bm,I.fi s/\St w0 As w' ([(l,.loop rc)] :: (Cs++bm))/\J s bm
structure JP3 {σ:Type}(J:σ->List Chunk->Prop):Prop
section
variable {P:Program}{T:aW}{w0:World}{As:List Chunk}{f:Fx}{k:Kt}{e:Env}{Ls Rs:List Chunk}
theorem WS.ZA {σ:Type}{Xr:Operand}{ps:List Nat}{assign body:Code}{g:FuncId}{fn:Func}{cap:List Value}{Cs B0:List Chunk}{I:T3 σ}(hI:T4 P g cap Cs B0 I){J:σ->List Chunk->Prop}(_:JP3 J)(hk:k.plain=true)
  (hg:ev e Xr=some (.func (.func g) #[] cap.toArray)) (hT:T.Ok P) (hf:Am T g=some fn) (hs:iv Ls Cs Rs) (hB:∀C∈B0,C∈Rs) (h0:J I.s0 Rs)
  (hr:∀rc l r X s vs s' bm,I.nx s vs s'->J s bm->∃V,S9 f.n ps vs V/\WS ⟨P,T,w0,As,some l,[]⟩ f assign (Ka P w0 As (X :: Cs) l r rc (J s') (fun _=>False) body) (V++e) ([(l,.loop rc)] :: (X :: (Cs++([(r,.deferred (some []))] :: bm)))))
  (hy:∀r s bm,I.fi s->J s bm->WE ⟨P,T,w0,As,none,[⟨.collected r,#[]⟩]⟩ f .normal k e ([(r,.deferred (some []))] :: (Cs++bm))):WS ⟨P,T,w0,As,none,[]⟩ f (.rangeFunc Xr ps.toArray assign body) k e Ls:=⟨fun a w E S=>by
 obtain ⟨f1,f2,f3⟩:=qC hT hf
 refine (wpIn_wide (n:=0)).2 (y5 E (S.tt hs) hg f1 f2 f3 fun rc l r w1 hL S1 => ?_)
 have pe:∀ {x y:Chunk} {A B:List Chunk},(x :: y :: (A++B)).Perm (x :: (A++(y :: B))):=fun {x y A B}=>(perm_middle.symm).cons x
 have pi:∀ {x y:Chunk} {A B:List Chunk},(x :: (A++(y :: B))).Perm (x :: y :: (A++B)):=fun {x y A B}=>(perm_middle).cons x
 have S1':St w0 As w1 ([(l,.loop rc)] :: (Cs++([(r,.deferred (some []))] :: Rs))):=S1.perm pe
 refine CallsIn.mono (hI w0 As (fun s L=>∃L0,L=[(r,.deferred (some []))] :: L0/\J s L0) l rc w1 _ S1' (fun C hC=>mem_cons_of_mem _ (hB C hC)) ⟨Rs,rfl,h0⟩ ?_) ?_
 ·rintro s vs s' _ w2 X rR ⟨L0,rfl,hJ⟩ S2
  obtain ⟨V,hp,hW⟩:=hr rc l r X s vs s' L0 rR hJ
  refine ⟨by rw [hL.pr];simpa using hp.len.symm, ?_⟩
  refine RoundIn.mono (OH (R:=RE P w0 As (X :: Cs) l r rc (J s') (fun _=>False)) hL S2 E hp fun a2 E2=>hW.ap a2 w2 E2 S2) ?_
  rintro en w3 (⟨rfl,L',S3,Zv⟩ | ⟨rfl,L',S3,Zv⟩)
  ·exact ⟨rfl,_,S3,L',rfl,Zv⟩
  ·exact Zv.elim
 ·rintro en w3 ⟨v,rfl,s,_,Ck,S3,L0,rfl,hJ⟩
  refine ⟨v,rfl,.inl ⟨_,S3.perm pi,fun w4 S4 a' E' => ?_⟩⟩
  have:=(hy r s L0 Ck hJ).ap a' w4 E' S4
  rwa [Kt.OG hk] at this⟩
end
end Go.Sl
namespace Go.Proofs.YtpabnmeponmonaaGreatDoor
theorem gf3 {G H1 H2 H3:Prop}{σ:Type}{g:FuncId}{cap:List Value}{Cs B0:List Chunk}{I:T3 σ}(hI:T4 prog g cap Cs B0 I)(J:σ->List Chunk->Prop)(k1:H1)(k2:H2)(k3:H3)(h:T4 prog g cap Cs B0 I->JP3 J->im H1->im H2->im H3->G:=by
 intro hi jp k1 k2 k3;refine go ?_
 apply WS.ZA hi jp;exact rfl;exact rfl;exact aD;exact rfl;exact aa;(repeat (first | exact OJ | (apply OK;exact mem)));exact k1.out;exact k2.out;exact k3.out):G:=h hI ⟨⟩ ⟨k1⟩ ⟨k2⟩ ⟨k3⟩
end Go.Proofs.YtpabnmeponmonaaGreatDoor
namespace Go.Proofs
open Go.Shelf
def Tryz.Dv:Go.Shelf.Ren:=⟨fun | 125=>148 | 128=>225 | 129=>226 | n=>n,fun | 46=>252 | 3=>3 | 51=>318 | 53=>30 | 4=>4 | 5=>5 | 9=>9 | n=>n,fun | n=>n⟩
theorem Tryz.T5:Go.Proofs.Lays.n125 prog Tryz.Dv:={
 mixed:=by kernel_rfl
 f125:=func148.trans (congrArg some (by kernel_rfl))
 f128:=func225.trans (congrArg some (by kernel_rfl))
 f129:=func226.trans (congrArg some (by kernel_rfl))
 t3:=underlying3
 a3:=isAgg3
 z3:=sizeOf3
 v3:=zeroValue3
 t4:=underlying4
 a4:=isAgg4
 z4:=sizeOf4
 v4:=zeroValue4
 t5:=underlying5
 a5:=isAgg5
 z5:=sizeOf5
 v5:=zeroValue5
 t9:=underlying9
 a9:=isAgg9
 z9:=sizeOf9
 v9:=zeroValue9
 t46:=underlying252
 a46:=isAgg252
 z46:=sizeOf252
 v46:=zeroValue252
 t51:=underlying318
 a51:=isAgg318
 z51:=sizeOf318
 v51:=zeroValue318
 t53:=underlying30
 a53:=isAgg30
 z53:=sizeOf30
 v53:=zeroValue30 }
theorem Tryz.bits_Len (x:Int)(w:World)(h0:0<=x)(h1:x<=18446744073709551615) :
  Calls prog 148 #[.int .u64 x] w fun e w'=>e = .returned (.int .i64 (Lib.bitLen x.toNat))/\w'=w:=Any.bits_Len Tryz.T5 x w h0 h1
def Tryz.Dw:Go.Shelf.Ren:=⟨fun | 189=>81 | 125=>148 | 257=>147 | 128=>225 | 129=>226 | 294=>216 | 295=>217 | 296=>218 | 297=>219 | 298=>220 | 299=>221 | 216=>222 | 300=>223 | 301=>224 | 328=>265 | 329=>266 | 330=>267 | 331=>268 | 332=>269 | 215=>270 | 343=>287 | n=>n,fun | 28=>91 | 3=>3 | 46=>252 | 0=>0 | 51=>318 | 53=>30 | 4=>4 | 183=>311 | 182=>310 | 131=>315 | 5=>5 | 9=>9 | 218=>351 | 222=>354 | 228=>370 | 229=>371 | n=>n,fun | n=>n⟩
theorem Tryz.T6:Go.Proofs.Lays.n189 prog Tryz.Dw:={
 mixed:=by kernel_rfl
 f125:=func148.trans (congrArg some (by kernel_rfl))
 f128:=func225.trans (congrArg some (by kernel_rfl))
 f129:=func226.trans (congrArg some (by kernel_rfl))
 f189:=func81.trans (congrArg some (by kernel_rfl))
 f215:=func270.trans (congrArg some (by kernel_rfl))
 f216:=func222.trans (congrArg some (by kernel_rfl))
 f257:=func147.trans (congrArg some (by kernel_rfl))
 f294:=func216.trans (congrArg some (by kernel_rfl))
 f295:=func217.trans (congrArg some (by kernel_rfl))
 f296:=func218.trans (congrArg some (by kernel_rfl))
 f297:=func219.trans (congrArg some (by kernel_rfl))
 f298:=func220.trans (congrArg some (by kernel_rfl))
 f299:=func221.trans (congrArg some (by kernel_rfl))
 f300:=func223.trans (congrArg some (by kernel_rfl))
 f301:=func224.trans (congrArg some (by kernel_rfl))
 f328:=func265.trans (congrArg some (by kernel_rfl))
 f329:=func266.trans (congrArg some (by kernel_rfl))
 f330:=func267.trans (congrArg some (by kernel_rfl))
 f331:=func268.trans (congrArg some (by kernel_rfl))
 f332:=func269.trans (congrArg some (by kernel_rfl))
 f343:=func287.trans (congrArg some (by kernel_rfl))
 t0:=underlying0
 a0:=isAgg0
 z0:=sizeOf0
 v0:=zeroValue0
 t3:=underlying3
 a3:=isAgg3
 z3:=sizeOf3
 v3:=zeroValue3
 t4:=underlying4
 a4:=isAgg4
 z4:=sizeOf4
 v4:=zeroValue4
 t5:=underlying5
 a5:=isAgg5
 z5:=sizeOf5
 v5:=zeroValue5
 t9:=underlying9
 a9:=isAgg9
 z9:=sizeOf9
 v9:=zeroValue9
 t28:=underlying91
 a28:=isAgg91
 z28:=sizeOf91
 v28:=zeroValue91
 t46:=underlying252
 a46:=isAgg252
 z46:=sizeOf252
 v46:=zeroValue252
 t51:=underlying318
 a51:=isAgg318
 z51:=sizeOf318
 v51:=zeroValue318
 t53:=underlying30
 a53:=isAgg30
 z53:=sizeOf30
 v53:=zeroValue30
 t131:=underlying315
 a131:=isAgg315
 z131:=sizeOf315
 v131:=zeroValue315
 t182:=underlying310
 a182:=isAgg310
 z182:=sizeOf310
 v182:=zeroValue310
 t183:=underlying311
 a183:=isAgg311
 z183:=sizeOf311
 v183:=zeroValue311
 t218:=underlying351
 a218:=isAgg351
 z218:=sizeOf351
 v218:=zeroValue351
 t222:=underlying354
 a222:=isAgg354
 z222:=sizeOf354
 v222:=zeroValue354
 t228:=underlying370
 a228:=isAgg370
 z228:=sizeOf370
 v228:=zeroValue370
 t229:=underlying371
 a229:=isAgg371
 z229:=sizeOf371
 v229:=zeroValue371 }
open Go.Sort Go.RowKit in
theorem Tryz.slices_Sort_int (gB off cap:Nat)(zs:List Int)(w:World)(hH:Holds (Value.int .i64) w gB off zs.toArray)(eD:gB<w.heap.size)(bu:zs.length<4611686018427387904) :
  Calls prog 81 #[.slice (some ⟨gB,off,none⟩) zs.length cap] w fun e w' =>
   e = .returned (.tuple #[])/\∃n os,w'=grow (putRow (Value.int .i64) (Sort.ahead w n) gB off (zs.mergeSort fun x y=>decide (x<=y)).toArray) os:=Any.slices_Sort_int Tryz.T6 gB off cap zs w hH eD bu
end Go.Proofs
namespace Go.Sl
open Go.Sort
def ints (l:List Int):List Value:=l.map (Value.int .i64)
theorem jR (l:List Int):(ints l).length=l.length:=by simp [ints]
theorem KS (l:List Int):∀u∈ints l,u.oneCell'=true:=fun u hu=>by obtain ⟨x, -,rfl⟩:=mem_map.1 hu;rfl
def Au (l:List Int):List Int:=l.mergeSort fun x y=>decide (x<=y)
theorem sA (l:List Int):(Au l).Perm l:=mergeSort_perm l _
theorem qD (l:List Int):(Au l).length=l.length:=(sA l).length_eq
theorem tv (l:List Int):(Au l).Pairwise (· <= ·):=by
 have:=pairwise_mergeSort (le:=fun x y:Int=>decide (x<=y)) (fun a b c h1 h2=>by simp only [decide_eq_true_eq] at *;omega) (fun a b=>by simp only [Bool.or_eq_true,decide_eq_true_eq];omega) l
 exact this.imp fun h=>by simpa using h
theorem T7 {w:World}(os:Array Obj)(A:Chunk):Tr w (grow w os) A A :=
 ⟨rfl,rfl,rfl,by simp [grow],fun R h=>rZ h fun x hx=>by
  have:=h.lt hx
  simp only [grow]
  rw [Array.getElem?_append_left this]⟩
theorem ym {zs ts:List Int}{r:List Value}(h:ts.length=zs.length):putCells (Value.int .i64) 0 ts.toArray (ints zs++r).toArray=(ints ts++r).toArray:=by
 apply Array.ext
 ·simp [putCells,ints,h]
 ·intro i h1 h2
  simp only [putCells,Array.getElem_mapIdx]
  by_cases c:i<ts.length
  ·rw [if_pos (by simp;omega)]
   simp [ints,getElem_append_left,c]
  ·rw [if_neg (by simp;omega)]
   simp only [getElem_toArray]
   rw [getElem_append_right (by rw [jR];omega),getElem_append_right (by rw [jR];omega)]
   simp only [jR,h]
theorem T8 {w:World}{g n:Nat}{os:Array Obj}{zs ts:List Int}{r:List Value}{T:TypeId}(h:ts.length=zs.length) :
  Tr w (grow (putRow (Value.int .i64) (Sort.ahead w n) g 0 ts.toArray) os) [(g,ax (ints zs++r) T)] [(g,ax (ints ts++r) T)]:=by
 refine Tr.trans ?_ (T7 os _)
 have hm:∀k,(putRow (Value.int .i64) (Sort.ahead w n) g 0 ts.toArray).heap[k]? = if g=k then (w.heap[k]?).map (onCells (putCells (Value.int .i64) 0 ts.toArray)) else w.heap[k]?:=fun k=>by
  simp [putRow,mapBlock,Sort.ahead,Array.getElem?_modify]
 refine uW (w:=w) (w':=putRow (Value.int .i64) (Sort.ahead w n) g 0 ts.toArray) rfl rfl rfl (by simp [putRow,mapBlock,Sort.ahead]) (fun hb => ?_) (fun k hk => ?_) []
 ·rw [hm,if_pos rfl,hb]
  simp only [Option.map_some,onCells,ax]
  rw [ym h]
 ·rw [hm,if_neg (Ne.symm hk)]
end Go.Sl
namespace Go.Proofs.YtpabnmeponmonaaGreatDoor
open Go.Sl Go.Sort
theorem OV (vO:Value)(O:Chunk):Ct 216 [vO,.int .i64 0,.int .i64 0] [O] fun _ Bs=>Bs=[O]:=by
 refine st func216 fun w0 => ?_
 refine gl [0,1,2] (fun (_:Nat)=>[(6,.int .i64 1)]) (fun _=>[]) (fun _=>True) (fun _=>0) 0 True.intro ?_
 rintro n -
 refine gz ?_
 exact fin rfl aa
theorem ZB:Ct 148 [.int .u64 0] [] fun u Bs=>u = .int .i64 (Lib.bitLen 0)/\Bs=[]:=fun w _=>by
 refine (Calls.mono (Tryz.bits_Len 0 w (by omega) (by omega)) ?_)
 rintro en w' ⟨rfl,rfl⟩
 exact ⟨_,rfl,[],⟨rfl,rfl⟩,mR.refl _ _⟩
theorem I7 (zs:List Int)(n:Nat)(hn:zs.length=n)(hb:n<=100000)(D:Chunk)(ad:Option Addr)(c:Nat)(hD:aC D 3 1 (.slice ad n c) n (ints zs)) :
  Ct 81 [.slice ad n c] [D] fun _ Bs=>∃D',aC D' 3 1 (.slice ad n c) n (ints (Au zs))/\Bs=[D']:=by
 rcases hD.2.2 with ⟨h2,h3,h4⟩ | ⟨g,c',r,hv,rfl,hnc,ng,yn⟩
 ·cases h2
  have hz:zs=[]:=eq_nil_of_length_eq_zero hn
  subst hz
  clear hn h3
  have eJ:aC D 3 1 (.slice none 0 0) 0 (ints (Au [])):=by
   have:Au []=[]:=eq_nil_of_length_eq_zero (by rw [qD];rfl)
   rw [this];exact hD
  refine st func81 fun w0 => ?_
  refine gc ZB ?_
  rintro _ _ ⟨rfl,rfl⟩
  refine ge ?_
  refine gl [0,1,2] (fun (_:Nat)=>[]) (fun _=>[]) (fun _=>True) (fun _=>0) 0 True.intro ?_
  rintro n -
  refine gc (OV (.slice none 0 0) D) ?_
  rintro _ _ rfl
  refine gz ?_
  exact fin ⟨D,eJ,rfl⟩ aa
 ·cases hv
  intro w H
  have hp:w.heap[g]? = some (ax (ints zs++r) 3):=H.2 (g,_) (by simp)
  have hH:Holds (Value.int .i64) w g 0 zs.toArray:=by
   intro j hj
   have Af:j<zs.length:=by simpa using hj
   have hc:(ints zs++r)[j]? = some (.int .i64 zs[j]):=by
    rw [getElem?_append_left (by rw [jR];exact Af)];simp [ints,Af]
   refine ⟨?_, ?_⟩
   ·simp [World.cell?,hp,ax,hc,Af]
   ·simp [World.frozen?,hp,ax]
  have hg:g<w.heap.size:=(Array.getElem?_eq_some_iff.1 hp).1
  have h:=Tryz.slices_Sort_int g 0 c zs w hH hg (by omega)
  rw [hn] at h
  refine Calls.mono h ?_
  rintro en w' ⟨rfl,k,os,rfl⟩
  refine ⟨_,rfl,[[(g,ax (ints (Au zs)++r) 3)]],⟨_, ?_,rfl⟩, ?_⟩
  ·exact ve (by rw [jR,qD];omega) (KS _) hnc ng (by rw [jR,qD,<-jR];exact yn)
  ·have:=T8 (w:=w) (g:=g) (n:=k) (os:=os) (r:=r) (T:=3) (qD zs)
   exact this
end Go.Proofs.YtpabnmeponmonaaGreatDoor
namespace Go.Sl
def Xs (ks:List Int):T3 (List Int×List Int):=⟨([],ks),fun s vs s'=>∃A q B,s.2=A++q :: B/\vs=[.int .i64 q]/\s'=(s.1++[q],A++B),fun _ _=>False,fun s=>s.2=[]⟩
def jh (Ms:List Me)(seen:Array Nat):List Int:=(Ms.filter fun m => !seen.contains m.born).map (·.key)
theorem Dx (Ms:List Me):jh Ms #[]=Ms.map (·.key):=by
 unfold jh;rw [filter_eq_self.2];simp
theorem vZ {Ms:List Me}{seen:Array Nat}{m:Me}(hn:(Ms.map (·.born)).Nodup)(hm:m∈Ms)(hs:m.born∉seen.toList):∃A B,jh Ms seen=A++m.key :: B/\jh Ms (seen.push m.born)=A++B:=by
 obtain ⟨A,B,Zy⟩:=append_of_mem (mem_filter.2 ⟨hm,by simpa using hs⟩:m∈Ms.filter fun z => !seen.contains z.born)
 have Cl:((Ms.filter fun z => !seen.contains z.born).map (·.born)).Nodup:=(filter_sublist.map _).nodup hn
 have e1:(Ms.filter fun z => !(seen.push m.born).contains z.born)=(Ms.filter fun z => !seen.contains z.born).filter fun z=>z.born != m.born:=by
  rw [filter_filter]
  apply filter_congr
  intro z _
  simp only [Array.contains_push,Bool.not_or,bne]
  rw [Bool.and_comm]
 rw [Zy,map_append,map_cons,nodup_append] at Cl
 obtain ⟨n1,n2,n3⟩:=Cl
 rw [nodup_cons] at n2
 refine ⟨A.map (·.key),B.map (·.key),by unfold jh;rw [Zy];simp, ?_⟩
 unfold jh
 rw [e1,Zy,filter_append,filter_cons_of_neg (by simp),<-map_append]
 congr 2
 ·rw [filter_eq_self];intro z hz;simpa using fun q=>n3 _ (mem_map_of_mem hz) _ (mem_cons_self ..) q
 ·rw [filter_eq_self];intro z hz;simpa using fun q=>n2.1 (by rw [<-q];exact mem_map_of_mem hz)
theorem KT {Ms:List Me}{seen:Array Nat}(h:∀m∈Ms,m.born∈seen.toList):jh Ms seen=[]:=by
 unfold jh
 rw [filter_eq_nil_iff.2]; · rfl
 intro m hm;simpa using h m hm
section
variable {P:Program}{a:Act}{w:World}{o:Oper}{Q:Exit->Act->World->Prop}{ro:Option Nat}{ops:Array Oper}{rest:List Oper}
theorem OW {α:Type}{a b c:α}{L:List α}:(a :: b :: c :: L).Perm ((c :: b :: L)++[a]):=((List.Perm.swap c b L).cons a).trans (perm_append_comm (l₁:=[a]) (l₂:=c :: b :: L))
theorem OX (hg:o.guard=none)(h:o.wpIn (RF ro) 0 P a w (wpListIn (RF ro) 0 P ops Q rest) Q):wpListIn (RF ro) 0 P ops Q (o :: rest) a w:=by
 unfold wpListIn
 rw [if_pos (by simp [Region.wanted,hg])]
 exact h
end
end Go.Sl
namespace Go.Proofs.YtpabnmeponmonaaGreatDoor
theorem T9 (b1 r:Nat)(L:List (Int×Value))(CM:Chunk)(hM:Mp r .i64 L CM) :
  T4 prog 186 [ptr b1] [CM] [[(b1,ax [.map (some r)] 148)]] (Xs (L.map (·.1))):=by
 intro w0 As J l rc w Ls S hB h0 hr
 obtain ⟨Ms,clock,rfl,oG,rfl⟩:=hM
 have xW:(Ms.map kv).map (·.1)=Ms.map (·.key):=by rw [map_map];rfl
 rw [xW] at h0 hr ⊢
 have hb:w.heap[b1]? = some (ax [.map (some r)] 148):=S.kE.one (by exact mem_cons_of_mem _ (mem_cons_of_mem _ (hB _ (mem_cons_self ..))))
 have h0':J ([],jh Ms #[]) Ls:=by rw [Dx];exact h0
 clear hB h0
 refine IS 14 func186 rfl rfl dZ ?_;intro a E
 refine dY ?_;intro K hK
 refine du rfl ?_
 refine aS E rfl rfl dZ (kV E rfl rfl rfl (vp hb rfl)) ?_;clear E a;intro a E
 refine uh rfl (CZ E S rfl rfl dZ rfl rfl (by repeat (first | exact pk1 | apply kS)) ?_);clear E S a;intro a w b5 E S
 refine wpList_nil ?_;refine bq ?_
 refine eO hK ?_;clear hK;clear K
 refine nj ?_
 refine kH (fun (m:Nat) (a:Act) (w':World)=>∃(done:List Int) (seen:Array Nat) (bm:List Chunk),m=(jh Ms seen).length/\J (done,jh Ms seen) bm/\St w0 As w' ([(l,.loop rc)] :: [(b5,.mapIter (some r) clock seen clock)] :: [(r,.map (jG .i64 Ms) clock)] :: bm)/\Fr a 14 [(0,.func (.yield l) #[] #[]),(5,ptr b5)]) ((jh Ms #[]).length) ?_ ?_
 ·exact ⟨[],#[],Ls,rfl,h0',S.perm (List.Perm.swap _ _ _),E.dr (bT rfl (bT rfl mZ))⟩
 clear E;clear a;(try clear S);rintro m a w ⟨done,seen,bm,rfl,hJ,S,E⟩
 refine dY ?_;intro K hK
 refine du rfl ?_
 refine uh rfl (Da E S rfl rfl dZ rfl I3 (fun m hm=>oG.born m hm) (Nat.le_refl _) ?_);clear E S a;intro a w v6 E hN6
 rcases hN6 with ⟨rfl,hall,S⟩ | ⟨m,hm,hns,rfl,S⟩
 ·skip
  refine aS E rfl rfl dZ (lS E rfl rfl rfl) ?_;clear E a;intro a E
  refine wpList_nil ?_;refine bq ?_
  refine eO hK ?_;clear hK;clear K
  refine dY ?_;intro K hK
  refine kX E rfl (rfl) ?_
  refine Ac ?_
  refine nT ?_;clear hK;clear K
  refine nT ?_
  refine zP ?_
  refine abp E rfl ?_
  exact ⟨_,rfl,(done,jh Ms seen),bm,KT hall,S.only (Rs:=[[(b5,.mapIter (some r) clock seen clock)]]) OW,hJ⟩
 ·skip
  refine aS E rfl rfl dZ (lS E rfl rfl rfl) ?_;clear E a;intro a E
  refine wpList_nil ?_;refine bq ?_
  refine eO hK ?_;clear hK;clear K
  refine dY ?_;intro K hK
  refine qz E rfl (rfl) ?_
  refine nV ?_
  refine eO hK ?_;clear hK;clear K
  refine nj ?_
  refine dY ?_;intro K hK
  refine du rfl ?_
  refine uh rfl (TF E (Db (m:=m) E rfl rfl (S.get (by repeat (first | exact pk1 | apply kS))) (S.get (by repeat (first | exact pk1 | apply kS))) hm oG.nb) rfl dZ ?_);clear E a;intro a E
  refine aS E rfl rfl dZ (lS E rfl rfl rfl) ?_;clear E a;intro a E
  refine aS E rfl rfl dZ (jF E rfl rfl) ?_;clear E a;intro a E
  refine wpList_nil ?_;refine bq ?_
  refine eO hK ?_;clear hK;clear K
  refine dY ?_;intro K hK
  refine wpIn_region_lit ?_
  have rR:(Xs (Ms.map (·.key))).nx (done,jh Ms seen) [.int .i64 m.key] (done++[m.key],jh Ms (seen.push m.born)):=(by obtain ⟨A,B,h1,h2⟩:=vZ oG.nb hm hns;exact ⟨A,m.key,B,h1,rfl,by rw [h2]⟩);obtain ⟨bu,hR⟩:=hr _ _ _ bm w [(b5,.mapIter (some r) clock (seen.push m.born) clock)] rR hJ (S.perm (((List.Perm.swap _ _ _).cons _).trans (List.Perm.swap _ _ _)));have hl:w.heap[l]? = some (.loop rc):=S.get (by repeat (first | exact pk1 | apply kS));have kY:=RoundIn.mono (R':=fun en w'=>(en = .returned (.bool true)/\∃ab4,St w0 As w' ([(l,.loop rc)] :: ([(b5,.mapIter (some r) clock (seen.push m.born) clock)] :: ([[(r,.map (jG .i64 Ms) clock)]]++ab4)))/\J (done++[m.key],jh Ms (seen.push m.born)) ab4)\/(en = .returned (.bool false)/\False)) hR fun _ _ h=>.inl h
  refine bZ E rfl rfl rfl dZ (ek E rfl rfl) ?_;clear E a;intro a E
  refine bZ E rfl rfl rfl dZ (ek E rfl rfl) ?_;clear E a;intro a E
  refine OX rfl (y6 E rfl dZ rfl rfl rfl (hl) (bu) (RoundIn.mono (kY) ?_))
  rintro en w (⟨rfl,hJ⟩ | ⟨rfl,hJ⟩)
  ·refine ⟨_,rfl, ?_⟩;clear E a;intro a E
   refine bZ E rfl rfl rfl dZ (u4 E rfl rfl) ?_;clear E a;intro a E
   refine wpListIn_nil ?_
   refine eO hK ?_;clear hK;clear K
   refine kX E rfl rfl ?_
   refine nV ?_
   refine r5 ?_
   refine na ?_
   obtain ⟨Ls2,S2,hJ2⟩:=hJ
   obtain ⟨A,B,h1,h2⟩:=vZ oG.nb hm hns
   exact ⟨_,by rw [h1,h2];simp,done++[m.key],seen.push m.born,Ls2,rfl,hJ2,S2,E.dr (bT rfl (bT rfl mZ))⟩
  ·refine ⟨_,rfl, ?_⟩;clear E a;intro a E
   refine bZ E rfl rfl rfl dZ (u4 E rfl rfl) ?_;clear E a;intro a E
   refine wpListIn_nil ?_
   refine eO hK ?_;clear hK;clear K
   refine qz E rfl rfl ?_
   refine GJ ?_
   refine zO ?_
   refine uY ?_
   refine zO ?_
   refine abo E rfl ?_
   exact hJ.elim
theorem Ua (r:Nat):Ct 127 [.map (some r)] [] fun u Bs=>∃b,u = .func (.func 186) #[] #[ptr b]/\Bs=[[(b,ax [.map (some r)] 148)]]:=by
 refine st func127 fun w0 => ?_
 refine ga ?_;intro b
 refine gz ?_
 exact fin ⟨b,rfl,rfl⟩ aa
theorem OY (b r:Nat)(L:List (Int×Value))(CM:Chunk)(hM:Mp r .i64 L CM)(hl:L.length<=1000) :
  Ct 245 [.slice none 0 0,.func (.func 186) #[] #[ptr b]] [[(b,ax [.map (some r)] 148)],CM]
   fun u Bs=>∃ks ad c D,ks.Perm (L.map (·.1))/\u = .slice ad L.length c/\aC D 3 1 u L.length (ints ks)/\Bs=[D,[(b,ax [.map (some r)] 148)],CM]:=by
 refine stM func245 fun w0 => ?_
 refine ga ?_;intro b2
 refine gf3 (T9 b r L CM hM) (fun s Ls=>∃ad c D,Ls=[[(b2,ax [.slice ad s.1.length c] 91)]++D,[(b,ax [.map (some r)] 148)]]/\aC D 3 1 (.slice ad s.1.length c) s.1.length (ints s.1)/\(s.1++s.2).Perm (L.map (·.1))) ?_ ?_ ?_
 ·exact ⟨none,0,[],rfl,aC.nil _ _,List.Perm.refl _⟩
 ·rintro rc l rr X s vs s' bm ⟨A,q,B,hs,rfl,rfl⟩ ⟨ad,c,D,rfl,hD,hp⟩
  have mU:=hp.length_eq
  rw [length_append,hs,length_append,length_cons,length_map] at mU
  have hp2:(s.1++[q]++(A++B)).Perm (L.map (·.1)):=by
   refine List.Perm.trans ?_ hp
   rw [hs,append_assoc]
   exact List.Perm.append_left _ (show (q :: (A++B)).Perm (A++q :: B) from perm_middle.symm)
  refine ⟨_,.one (Nat.le_of_ble_eq_true rfl), ?_⟩
  refine gas ?_
  refine gs ?_
  refine gm ?_;intro xX
  refine gp ?_;intro ad2 c2 D2 Dy
  refine go ?_
  exact WE.next (L':=[[(b2,ax [.slice ad2 (s.1++[q]).length c2] 91)]++D2,[(b,ax [.map (some r)] 148)]]) (by rw [length_append];exact aa) ⟨ad2,c2,D2,rfl,by simpa [ints] using Dy,hp2⟩
 ·rintro rr s bm Ck ⟨ad,c,D,rfl,hD,hp⟩
  have Ck:s.2=[]:=Ck
  rw [Ck,append_nil] at hp
  have mU:=hp.length_eq
  rw [length_map] at mU
  rw [mU] at hD
  rw [mU]
  refine go ?_
  refine gs ?_
  refine gs ?_
  refine gm1 ?_
  exact fin ⟨s.1,ad,c,D,hp,rfl,hD,rfl⟩ aa
theorem OZ (b r:Nat)(L:List (Int×Value))(CM:Chunk)(hM:Mp r .i64 L CM)(hl:L.length<=1000) :
  Ct 126 [.func (.func 186) #[] #[ptr b]] [[(b,ax [.map (some r)] 148)],CM]
   fun u Bs=>∃ks ad c D,ks.Perm (L.map (·.1))/\ks.Pairwise (· <= ·)/\u = .slice ad L.length c/\aC D 3 1 u L.length (ints ks)/\Bs=[D,[(b,ax [.map (some r)] 148)],CM]:=by
 have hap:=OY b r L CM hM hl
 refine st func126 fun w0 => ?_
 refine ge ?_
 refine gc hap ?_
 rintro _ _ ⟨ks,ad,c,D,hp,rfl,hD,rfl⟩
 have kI:=hp.length_eq
 rw [length_map] at kI
 refine gc (I7 ks _ kI oZ D ad c hD) ?_
 rintro _ _ ⟨D',eJ,rfl⟩
 refine gz ?_
 exact fin ⟨Au ks,ad,c,D',(sA ks).trans hp,tv ks,rfl,eJ,rfl⟩ aa
end Go.Proofs.YtpabnmeponmonaaGreatDoor
namespace Go.Sl
def numOf:List UInt8->Nat
 | []=>0
 | b :: r=>b.toNat+256*numOf r
theorem qE (xs ys:List UInt8):numOf (xs++ys)=numOf xs+256 ^ xs.length*numOf ys:=by
 induction xs with
 | nil=>simp [numOf]
 | cons b r ih=>simp only [cons_append,numOf,ih,length_cons,Nat.pow_succ];rw [Nat.mul_add,Nat.add_assoc];congr 2;rw [<-Nat.mul_assoc,Nat.mul_comm 256]
theorem wa (xs:List UInt8):numOf xs<256 ^ xs.length:=by
 induction xs with
 | nil=>simp [numOf]
 | cons b r ih =>
  have:=b.toNat_lt
  simp only [numOf,length_cons,Nat.pow_succ]
  omega
theorem tR (bs:List UInt8)(k:Nat)(h:k<bs.length):numOf (bs.take (k+1))=numOf (bs.take k)+bs[k].toNat*2 ^ (8*k):=by
 rw [take_succ_eq_append_getElem h,qE,length_take,Nat.min_eq_left oZ,Nat.pow_mul]
 simp [numOf,Nat.mul_comm]
def ah (n:Nat):Nat->List UInt8
 | 0=>[]
 | k+1=>ah n k++[UInt8.ofNat (n / 2 ^ (8*k))]
theorem aj (n k:Nat):(ah n k).length=k:=by induction k <;> simp [ah, *]
theorem wb (n k:Nat):numOf (ah n k)=n % 256 ^ k:=by
 induction k with
 | zero=>simp [ah,numOf,Nat.mod_one]
 | succ k ih =>
  rw [ah,qE,ih,aj,Nat.pow_succ,Nat.mod_mul]
  simp [numOf,Nat.pow_mul]
theorem sB (xs:List Value)(k:Nat)(z v:Value)(j:Nat)(hj:xs.length=j)(hk:j<k) :
  (xs++replicate (k - j) z).set j v=(xs++[v])++replicate (k - (j+1)) z:=by
 subst hj
 rw [set_append_right _ _ (Nat.le_refl _),Nat.sub_self,show k - xs.length=(k - (xs.length+1))+1 by omega,replicate_succ,set_cons_zero,append_assoc]
 rfl
theorem np (bs:List UInt8)(k:Nat){c:UInt8}(h:bs[k]? = some c):numOf (bs.take (k+1))=numOf (bs.take k)+c.toNat*2 ^ (8*k):=by
 obtain ⟨hk,rfl⟩:=List.getElem?_eq_some_iff.1 h
 exact tR bs k hk
end Go.Sl
namespace Go.Proofs.YtpabnmeponmonaaGreatDoor
theorem I8 (bs:List UInt8)(m:Nat)(hb:m<=8)(hm:bs.length=m)(C:Chunk)(v:Value)(h:Rd C 1 v m (au bs)):Ct 198 [v] [C] fun u Bs=>u = .int .u64 (numOf bs)/\Bs=[C]:=by
 subst hm
 obtain ⟨ad,c,rfl⟩:=h.slice
 refine st func198 fun w0 => ?_
 refine gl [7,6] (fun i:Nat=>[(8,.int .i64 i),(3,.int .u64 (numOf (bs.take i)))]) (fun _=>[C]) (· <= bs.length) (bs.length - ·) 0 (Nat.zero_le _) ?_
 intro i hi
 refine gi ?_ ?_ <;> intro br
 ·obtain ⟨x,hx⟩:=eC (show i<bs.length by omega)
  obtain ⟨g,off,rfl⟩:=h.addr oZ
  have h1:=wa (bs.take (i+1))
  rw [np bs i hx,length_take,Nat.min_eq_left oZ,show 256 ^ (i+1)=2 ^ (8*(i+1)) by rw [show 256=2 ^ 8 from rfl,<-Nat.pow_mul]] at h1
  have h2:2 ^ (8*(i+1))<=2 ^ 64:=Nat.pow_le_pow_right oZ oZ
  have h3:numOf (bs.take i)+x.toNat*2 ^ (8*i)<18446744073709551616:=oZ
  have h4:x.toNat*2 ^ (8*i)<18446744073709551616:=oZ
  have h5:numOf (bs.take i)<2 ^ (8*i):=by
   have:=wa (bs.take i)
   rwa [length_take,Nat.min_eq_left oZ,show 256=2 ^ 8 from rfl,<-Nat.pow_mul] at this
  refine gn ?_
  refine ⟨i+1,by omega,by omega, ?_,_,aa⟩
  rw [np bs i hx]
  exact ar
 ·refine gz ?_
  exact fin ⟨by rw [take_of_length_le oZ],rfl⟩ aa
theorem O0 (n k:Nat)(hk:k<=8):Ct 199 [.int .u64 n,.int .i64 k] [] fun u Bs=>∃g,u = .slice (some ⟨g,0,none⟩) k k/\Bs=[[(g,ax (au (ah n k)) 5)]]:=by
 refine st func199 fun w0 => ?_
 refine gm ?_;intro g
 refine gl [0,5,10] (fun i:Nat=>[(11,.int .i64 i)]) (fun i=>[[(g,ax (au (ah n i)++replicate (k - i) (.int .u8 0)) 5)]]) (· <= k) (k - ·) 0 (Nat.zero_le _) ?_
 intro i hi
 refine gi ?_ ?_ <;> intro br
 ·have hl:=aj n i
  have hs:=aeh (x:=n) (j:=8*i)
  have h8:=w8 (n / 2 ^ (8*i))
  have hz:=sB (au (ah n i)) k (.int .u8 0) (.int .u8 (UInt8.ofNat (n / 2 ^ (8*i))).toNat) i (by rw [aq,aj]) oZ
  refine gn ?_
  rw [hz,show au (ah n i)++[.int .u8 (UInt8.ofNat (n / 2 ^ (8*i))).toNat]=au (ah n (i+1)) by rw [ah,aG];rfl]
  exact ⟨i+1,by omega,by omega,ar,_,aa⟩
 ·obtain rfl:i=k:=oZ
  refine go ?_
  simp only [Nat.sub_self,replicate_zero,append_nil]
  exact fin ⟨g,rfl,rfl⟩ aa
def xY (p room:Nat)(bs:List UInt8)(A:Chunk):Prop:=∃v C,aC C 5 1 v bs.length (au bs)/\room<=10000/\A=[(p,ax [.int .i64 room,v,.int .i64 0] 292)]++C
theorem O1 (p room:Nat)(bs b:List UInt8)(A D:Chunk)(v:Value)(hA:xY p room bs A)(hD:Rd D 1 v b.length (au b))(hf:bs.length+b.length<=room):Ct 200 [ptr p,v] [A,D] fun u Bs=>∃A',u = .int .i64 0/\xY p room (bs++b) A'/\Bs=[A',D]:=by
 obtain ⟨v0,C,hC,hr,rfl⟩:=hA
 obtain ⟨ad,c,rfl⟩:=hD.slice
 obtain ⟨KV,c0,rfl⟩:=hC.slice
 refine st func200 fun w0 => ?_
 refine gs ?_
 refine gp ?_;intro iY c1 C1 pF
 refine gz ?_
 exact fin ⟨_,rfl,⟨_,C1,by rw [length_append,aG];exact pF,hr,rfl⟩,rfl⟩ aa
theorem fT (p room:Nat)(bs:List UInt8)(A:Chunk)(n k:Nat)(hA:xY p room bs A)(hk:1<=k/\k<=8)(hn:n<256 ^ k)(hf:bs.length+k<=room):Ct 134 [ptr p,.int .u64 n,.int .i64 k] [A] fun _ Bs=>∃A',xY p room (bs++ah n k) A'/\Bs=[A']:=by
 obtain ⟨v0,C,hC,hr,rfl⟩:=hA
 obtain ⟨KV,c0,rfl⟩:=hC.slice
 refine st func134 fun w0 => ?_
 refine gs ?_
 refine ga ?_;intro b1
 refine ga ?_;intro b2
 refine ga ?_;intro b3
 refine ge ?_
 refine ge ?_
 have hr1:=fun g:Nat=>ay (g:=g) (s:=1) (m:=k) (T:=5) (xs:=au (ah n k)) (by rw [aq,aj];omega) (aP _) oZ k
 have hv:numOf (ah n k)=n:=by rw [wb,Nat.mod_eq_of_lt hn]
 refine gd [0,4,16,9,13,20,24] ?_
 refine gc (O0 n k hk.2) ?_
 rintro _ _ ⟨g,rfl,rfl⟩
 refine gc (I8 _ _ hk.2 (aj n k) _ _ (hr1 g)) ?_
 rintro _ _ ⟨rfl,rfl⟩
 rw [hv]
 refine gd [0,4,8,13,19,22] ?_
 refine gc (O0 n k hk.2) ?_
 rintro _ _ ⟨g2,rfl,rfl⟩
 refine gc (O1 p room bs (ah n k) _ _ _ ⟨_,C,hC,hr,rfl⟩ (by rw [aj];exact hr1 g2) (by rw [aj];exact hf)) ?_
 rintro _ _ ⟨A',rfl,eo,rfl⟩
 obtain ⟨v1,C1,pF,_,rfl⟩:=eo
 obtain ⟨iY,c1,rfl⟩:=pF.slice
 refine gs ?_
 refine gz ?_
 exact fin ⟨_,⟨_,C1,pF,hr,rfl⟩,rfl⟩ aa
theorem nX (p room:Nat)(bs b:List UInt8)(A D:Chunk)(v:Value)(hA:xY p room bs A)(hD:Rd D 1 v b.length (au b))(hf:bs.length+b.length<=room):Ct 136 [ptr p,v] [A,D] fun _ Bs=>∃A',xY p room (bs++b) A'/\Bs=[A',D]:=by
 obtain ⟨v0,C,hC,hr,rfl⟩:=hA
 obtain ⟨KV,c0,rfl⟩:=hC.slice
 obtain ⟨ad,c,rfl⟩:=hD.slice
 refine st func136 fun w0 => ?_
 refine gs ?_
 refine ga ?_;intro b1
 refine ga ?_;intro b2
 refine ge ?_
 refine ge ?_
 refine gc (O1 p room bs b _ _ _ ⟨_,C,hC,hr,rfl⟩ hD hf) ?_
 rintro _ _ ⟨A',rfl,⟨v1,C1,pF,_,rfl⟩,rfl⟩
 obtain ⟨iY,c1,rfl⟩:=pF.slice
 refine gs ?_
 refine gz ?_
 exact fin ⟨_,⟨_,C1,pF,hr,rfl⟩,rfl⟩ aa
theorem Uc (n:Nat):au (replicate n 0)=replicate n (.int .u8 0):=by simp [au]
theorem I9 (p room:Nat)(bs:List UInt8)(A:Chunk)(k:Nat)(hA:xY p room bs A)(hf:bs.length<=k/\k<=room):Ct 135 [ptr p,.int .i64 k] [A] fun _ Bs=>∃A',xY p room (bs++replicate (k - bs.length) 0) A'/\Bs=[A']:=by
 obtain ⟨v0,C,hC,hr,rfl⟩:=hA
 obtain ⟨KV,c0,rfl⟩:=hC.slice
 refine st func135 fun w0 => ?_
 refine gs ?_
 refine ga ?_;intro b1
 refine ga ?_;intro b2
 refine ge ?_
 refine ge ?_
 refine gd [0,4,8,12,16,20,24,28,33,39,42] ?_
 refine gm ?_;intro g
 refine gc (O1 p room bs (replicate (k - bs.length) 0) _ [(g,ax (replicate (k - bs.length) (.int .u8 0)) 5)] _ ⟨_,C,hC,hr,rfl⟩ (by rw [Uc,length_replicate];exact ay (by simp) (fun u hu=>by rw [(mem_replicate.1 hu).2];rfl) oZ (k - bs.length)) (by rw [length_replicate];omega)) ?_
 rintro _ _ ⟨A',rfl,⟨v1,C1,pF,_,rfl⟩,rfl⟩
 obtain ⟨iY,c1,rfl⟩:=pF.slice
 refine gs ?_
 refine gz ?_
 exact fin ⟨_,⟨_,C1,pF,hr,rfl⟩,rfl⟩ aa
theorem wc (k:Nat)(hk:k<=10000):Ct 131 [.int .i64 k] [] fun u Bs=>∃p A,u=ptr p/\xY p k [] A/\Bs=[A]:=by
 refine st func131 fun w0 => ?_
 refine ga ?_;intro b
 refine go ?_
 rw [show max (0:Int) k=k by omega]
 exact fin ⟨b,_,rfl,⟨_,[],aC.nil _ _,hk,rfl⟩,rfl⟩ aa
theorem we (bs:List UInt8)(m:Nat)(hm:bs.length=m)(hb:m<=1000000)(C:Chunk)(v:Value)(h:Rd C 1 v m (au bs)):Ct 203 [v] [C] fun u Bs=>∃g,u = .slice (some ⟨g,0,none⟩) m m/\Bs=[[(g,ax (au bs) 5)],C]:=by
 subst hm
 obtain ⟨ad,c,rfl⟩:=h.slice
 refine st func203 fun w0 => ?_
 refine gm ?_;intro g
 have hl:(replicate bs.length (Value.int .u8 0)).take 0++(au bs).take (min bs.length bs.length)++(replicate bs.length (Value.int .u8 0)).drop (0+min bs.length bs.length)=au bs:=N7 ⟨aq _,length_replicate,rfl,rfl⟩
 refine gy ?_
 refine gz ?_
 exact fin ⟨g,rfl,rfl⟩ aa
theorem pG (p room:Nat)(bs:List UInt8)(A:Chunk)(hA:xY p room bs A)(hb:bs.length<=10000):Ct 137 [ptr p] [A] fun u Bs=>∃g,u = .tuple #[.slice (some ⟨g,0,none⟩) bs.length bs.length,.int .i64 0]/\Bs=[[(g,ax (au bs) 5)],A]:=by
 obtain ⟨v0,C,hC,hr,rfl⟩:=hA
 obtain ⟨KV,c0,rfl⟩:=hC.slice
 refine st func137 fun w0 => ?_
 refine gs ?_
 refine gc (we bs _ rfl oZ _ _ hC.rd) ?_
 rintro _ _ ⟨g,rfl,rfl⟩
 refine gz ?_
 exact fin ⟨g,rfl,rfl⟩ aa
end Go.Proofs.YtpabnmeponmonaaGreatDoor
namespace Go.Sl
def cut (bs:List UInt8)(i k:Nat):List UInt8:=(bs.drop i).take k
theorem Ja {bs:List UInt8}{i k:Nat}(h:i+k<=bs.length):(cut bs i k).length=k:=by simp [cut];omega
theorem O2 {bs:List UInt8}{j:Nat}{x:UInt8}(h:(bs.take j).all (· == 0)=true)(hx:bs[j]? = some x)(h0:x=0):(bs.take (j+1)).all (· == 0)=true:=by
 obtain ⟨hj,rfl⟩:=List.getElem?_eq_some_iff.1 hx
 rw [take_succ_eq_append_getElem hj,all_append,h];simp [h0]
theorem Jb {x:UInt8}:(x.toNat:Int)=0↔x=0:=⟨fun h=>UInt8.toNat_inj.1 (show x.toNat=0 by omega),fun h=>by rw [h];rfl⟩
theorem Jc (bs:List UInt8)(i k:Nat):((au bs).drop (i*1)).take ((i+k - i)*1)=au (cut bs i k):=by
 rw [Nat.mul_one,Nat.mul_one,Nat.add_sub_cancel_left,bo,aQ];rfl
end Go.Sl
namespace Go.Proofs.YtpabnmeponmonaaGreatDoor
def pH (p:Nat)(bs:List UInt8)(i e:Nat)(A:Chunk):Prop:=∃g,bs.length<=10000/\A=[(p,ax [.slice (some ⟨g,0,none⟩) bs.length bs.length,.int .i64 i,.int .i64 e] 347)]++[(g,ax (au bs) 5)]
theorem Av (bs:List UInt8)(h:bs.length<=10000)(g:Nat):Rd [(g,ax (au bs) 5)] 1 (.slice (some ⟨g,0,none⟩) bs.length bs.length) bs.length (au bs):=ay (by rw [aq,Nat.mul_one]) (aP _) oZ _
theorem sC (bs:List UInt8)(m:Nat)(hm:bs.length=m)(hb:m<=10000)(C:Chunk)(v:Value)(h:Rd C 1 v m (au bs)):Ct 208 [v] [C] fun u Bs=>∃p A,u=ptr p/\pH p bs 0 0 A/\Bs=[A,C]:=by
 subst hm
 refine st func208 fun w0 => ?_
 refine gc (we bs _ rfl oZ _ _ h) ?_
 rintro _ _ ⟨g,rfl,rfl⟩
 refine ga ?_;intro p
 refine gz ?_
 exact fin ⟨p,_,rfl,⟨g,hb,rfl⟩,rfl⟩ aa
theorem cw (p:Nat)(bs:List UInt8)(i k:Nat)(A:Chunk)(hA:pH p bs i 0 A)(hk:1<=k/\k<=8)(hi:i+k<=bs.length):Ct 209 [ptr p,.int .i64 k] [A] fun u Bs=>∃A',u = .int .u64 (numOf (cut bs i k))/\pH p bs (i+k) 0 A'/\Bs=[A']:=by
 obtain ⟨g,hb,rfl⟩:=hA
 have hR:=Av bs hb g
 have hn:i+k - i=k:=oZ
 have qc:=Jc bs i k
 refine st func209 fun w0 => ?_
 refine gs ?_
 refine ga ?_;intro b1
 refine ga ?_;intro b2
 refine ga ?_;intro b3
 refine ge ?_
 refine ge ?_
 refine ge ?_
 refine gw ?_;intro ad kY
 refine gc (I8 _ k hk.2 (Ja hi) _ _ kY) ?_
 rintro _ _ ⟨rfl,rfl⟩
 refine gz ?_
 exact fin ⟨_,rfl,⟨g,hb,rfl⟩,rfl⟩ aa
theorem qF (p:Nat)(bs:List UInt8)(i k:Nat)(A:Chunk)(hA:pH p bs i 0 A)(hi:i+k<=bs.length):Ct 210 [ptr p,.int .i64 k] [A] fun u Bs=>∃A' b,u = .slice (some ⟨b,0,none⟩) k k/\pH p bs (i+k) 0 A'/\Bs=[A',[(b,ax (au (cut bs i k)) 5)]]:=by
 obtain ⟨g,hb,rfl⟩:=hA
 have hR:=Av bs hb g
 have hn:i+k - i=k:=oZ
 have qc:=Jc bs i k
 refine st func210 fun w0 => ?_
 refine gs ?_
 refine ga ?_;intro b1
 refine ga ?_;intro b2
 refine ga ?_;intro b3
 refine ge ?_
 refine ge ?_
 refine ge ?_
 refine gw ?_;intro ad kY
 refine gc (we _ k (Ja hi) oZ _ _ kY) ?_
 rintro _ _ ⟨b,rfl,rfl⟩
 refine gz ?_
 exact fin ⟨_,b,rfl,⟨g,hb,rfl⟩,rfl⟩ aa
def kJ (bs:List UInt8)(i:Nat):Bool:=(bs.drop i).all (· == 0)
theorem GU (p:Nat)(bs:List UInt8)(i:Nat)(A:Chunk)(hA:pH p bs i 0 A)(hi:i<=bs.length):Ct 212 [ptr p,.int .i64 bs.length] [A] fun _ Bs=>∃A',pH p bs (if kJ bs i then bs.length else i) (if kJ bs i then 0 else 14) A'/\Bs=[A']:=by
 obtain ⟨g,hb,rfl⟩:=hA
 have hR:=Av bs hb g
 have hn:bs.length - i=(bs.drop i).length:=by simp
 have qc:((au bs).drop (i*1)).take ((bs.length - i)*1)=au (bs.drop i):=by
  rw [Nat.mul_one,Nat.mul_one,bo,take_of_length_le (by rw [aq];simp)]
 refine st func212 fun w0 => ?_
 refine gs ?_
 refine ga ?_;intro b1
 refine ga ?_;intro b2
 refine ge ?_
 refine ge ?_
 refine gw ?_;intro ad kY
 refine gl [0,1,29,30] (fun j:Nat=>[(31,.int .i64 j)]) (fun _=>[]) (fun j=>j<=(bs.drop i).length/\((bs.drop i).take j).all (· == 0)=true) (fun j=>(bs.drop i).length - j) 0 ⟨Nat.zero_le _,rfl⟩ ?_
 rintro j ⟨hj,hz⟩
 refine gi ?_ ?_ <;> intro br
 ·obtain ⟨x,hx⟩:=eC (show j<(bs.drop i).length by omega)
  obtain ⟨b,off,rfl⟩:=kY.addr oZ
  refine gi ?_ ?_ <;> intro h0
  ·have gf:kJ bs i=false:=by
    rw [kJ,all_eq_false]
    exact ⟨x,mem_of_getElem? hx,by simp only [beq_iff_eq];exact fun h=>h0 (Jb.2 h)⟩
   refine gz ?_
   exact fin ⟨_,⟨g,hb,rfl⟩,rfl⟩ (by simp only [gf];exact aa)
  ·refine gn ?_
   exact ⟨j+1,⟨by omega,O2 hz hx (Jb.1 h0)⟩,by omega,ar,_,aa⟩
 ·have gf:kJ bs i=true:=by rw [kJ,<-hz,take_of_length_le oZ]
  refine gz ?_
  exact fin ⟨_,⟨g,hb,rfl⟩,rfl⟩ (by simp only [gf];exact aa)
theorem uu (p:Nat)(bs:List UInt8)(i e:Nat)(A:Chunk)(hA:pH p bs i e A)(hi:i<=bs.length):Ct 214 [ptr p] [A] fun u Bs=>u = .int .i64 ((if e=0/\i<bs.length then 13 else e:Nat):Int)/\Bs=[A]:=by
 obtain ⟨g,hb,rfl⟩:=hA
 refine st func214 fun w0 => ?_
 refine gs ?_
 refine gg ?_ ?_ <;> intro h1
 ·refine ge ?_
  refine gi ?_ ?_ <;> intro h2
  ·refine gz ?_
   exact fin ⟨by rw [if_pos oZ];rfl,rfl⟩ aa
  ·refine gz ?_
   exact fin ⟨by rw [if_neg oZ],rfl⟩ aa
 ·refine gz ?_
  exact fin ⟨by rw [if_neg oZ],rfl⟩ aa
end Go.Proofs.YtpabnmeponmonaaGreatDoor
namespace Go.Sl
theorem nq {n k:Nat}(h:n<256 ^ k):numOf (ah n k)=n:=by rw [wb,Nat.mod_eq_of_lt h]
theorem KW (b:List UInt8)(q k:Nat):numOf ((b.drop q).take k)<256 ^ k :=
 Nat.lt_of_lt_of_le (wa _) (Nat.pow_le_pow_right oZ (by rw [length_take];omega))
structure Pt where
 top:Int
 at_:Int
 bytes:Int
 bg:Nat
 kind:Int
 a:Nat
 b:Nat
 c:Nat
 d:Nat
deriving DecidableEq
def Pt.lay (p:Pt):List Value:=[.int .i64 p.top,.int .i64 p.at_,.int .i64 p.bytes,.int .u64 p.bg,.int .i64 p.kind,.int .u64 p.a,.int .u64 p.b,.int .u64 p.c,.int .u64 p.d]
abbrev Pt.agg (p:Pt):Value:=.agg #[.int .i64 p.top,.int .i64 p.at_,.int .i64 p.bytes,.int .u64 p.bg,.int .i64 p.kind,.int .u64 p.a,.int .u64 p.b,.int .u64 p.c,.int .u64 p.d]
theorem Pt.ak (p:Pt):p.lay.length=9:=rfl
theorem Pt.bK (p:Pt):∀u∈p.lay,u.oneCell'=true:=fun u hu=>by
 simp only [Pt.lay,List.mem_cons,not_mem_nil,or_false] at hu
 rcases hu with rfl | rfl | rfl | rfl | rfl | rfl | rfl | rfl | rfl <;> rfl
structure Pt.Ok (p:Pt):Prop where
 top : -9223372036854775808<=p.top/\p.top<=9223372036854775807
 at_ : -9223372036854775808<=p.at_/\p.at_<=9223372036854775807
 bytes : -9223372036854775808<=p.bytes/\p.bytes<=9223372036854775807
 bg:p.bg<18446744073709551616
 kind : -9223372036854775808<=p.kind/\p.kind<=9223372036854775807
 a:p.a<18446744073709551616
 b:p.b<18446744073709551616
 c:p.c<18446744073709551616
 d:p.d<18446744073709551616
def ai:Pt:=⟨0,0,0,0,0,0,0,0,0⟩
theorem dK:ai.Ok:=by constructor <;> simp [ai]
def Pt.KX (p q:Pt):Bool:=p.top==q.top&&(p.at_==q.at_&&(p.bytes==q.bytes&&(((p.bg:Int)==(q.bg:Int))&&(p.kind==q.kind&&(((p.a:Int)==(q.a:Int))&&(((p.b:Int)==(q.b:Int))&&(((p.c:Int)==(q.c:Int))&&((p.d:Int)==(q.d:Int)))))))))
theorem Pt.ext_iff (p q:Pt):p=q↔p.top=q.top/\p.at_=q.at_/\p.bytes=q.bytes/\p.bg=q.bg/\p.kind=q.kind/\p.a=q.a/\p.b=q.b/\p.c=q.c/\p.d=q.d:=by
 cases p;cases q;simp
def Pt.cJ (p:Pt):Prop:=0<=p.top/\p.top<4/\0<=p.at_/\p.at_<=40959/\1<=p.bytes/\p.bytes<=1024/\1<=p.bg/\p.bg<=281474976710656/\(p.kind=1\/p.kind=2)
instance (p:Pt):Decidable p.cJ:=by unfold Pt.cJ;infer_instance
def fK (p:Pt):Int:=if p=ai then 0 else if p.cJ then 0 else 40
theorem y9 {p:Pt}(h:fK p=0):p=ai\/p.cJ:=by
 unfold fK at h
 split at h
 ·rename_i c;exact .inl c
 ·split at h
  ·rename_i c;exact .inr c
  ·cases h
structure Pt.May (p:Pt):Prop where
 top:0<=p.top/\p.top<4
 at_:0<=p.at_/\p.at_<=40959
 bytes:0<=p.bytes/\p.bytes<=1024
 bg:p.bg<=281474976710656
 kind:0<=p.kind/\p.kind<=2
theorem Aw {p:Pt}(h:fK p=0):p.May:=by
 rcases y9 h with rfl | h
 ·constructor <;> simp [ai]
 ·obtain ⟨h1,h2,h3,h4,h5,h6,h7,h8,h9⟩:=h
  constructor <;> omega
def Ud (p:Pt):List UInt8:=ah p.a 8++ah p.b 8++ah p.c 8++ah p.d 8
def KY (p:Pt):List UInt8:=ah p.top.toNat 1++ah p.kind.toNat 1++ah p.bytes.toNat 2++ah p.at_.toNat 4++ah p.bg 8++Ud p
theorem lW (p:Pt):(KY p).length=48:=by simp [KY,Ud,aj]
def dB (p:Pt):List UInt8:=KY p++replicate 16 0
theorem bc (p:Pt):(dB p).length=64:=by simp [dB,lW]
abbrev nm (b:List UInt8)(q k:Nat):Nat:=numOf ((b.drop q).take k)
theorem Jd (b:List UInt8)(q k:Nat):nm b q k<256 ^ k:=KW b q k
def O3 (b:List UInt8)(q:Nat):Pt:=⟨nm b q 1,nm b (q+4) 4,nm b (q+2) 2,nm b (q+8) 8,nm b (q+1) 1,nm b (q+16) 8,nm b (q+24) 8,nm b (q+32) 8,nm b (q+40) 8⟩
theorem p1:(256:Nat) ^ 1=256:=by decide
theorem p2:(256:Nat) ^ 2=65536:=by decide
theorem p4:(256:Nat) ^ 4=4294967296:=by decide
theorem p8:(256:Nat) ^ 8=18446744073709551616:=by decide
theorem bN (x y:List UInt8)(n:Nat){q k:Nat}(h:x.length=q)(hn:n<256 ^ k):nm (x++(ah n k++y)) q k=n:=by
 unfold nm
 rw [drop_left' h,take_left' (aj _ _),nq hn]
theorem DE {p:Pt}(h:p.May)(ho:p.Ok)(x y:List UInt8){q:Nat}(hx:x.length=q):O3 (x++(KY p++y)) q=p:=by
 obtain ⟨h1,h2,h3,h4,h5⟩:=h
 have e1:=p1;have e2:=p2;have e4:=p4;have e8:=p8
 have ha:=ho.a;have hb:=ho.b;have hc:=ho.c;have hd:=ho.d
 rw [Pt.ext_iff]
 simp only [O3,KY,Ud,append_assoc]
 refine ⟨?_, ?_, ?_, ?_, ?_, ?_, ?_, ?_, ?_⟩
 ·rw [bN _ _ _ hx oZ];omega
 ·have:=bN (x++(ah p.top.toNat 1++(ah p.kind.toNat 1++ah p.bytes.toNat 2))) (ah p.bg 8++(ah p.a 8++(ah p.b 8++(ah p.c 8++(ah p.d 8++y))))) p.at_.toNat (q:=q+4) (k:=4) (by simp [aj,hx]) oZ
  simp only [append_assoc] at this;rw [this];omega
 ·have:=bN (x++(ah p.top.toNat 1++ah p.kind.toNat 1)) (ah p.at_.toNat 4++(ah p.bg 8++(ah p.a 8++(ah p.b 8++(ah p.c 8++(ah p.d 8++y)))))) p.bytes.toNat (q:=q+2) (k:=2) (by simp [aj,hx]) oZ
  simp only [append_assoc] at this;rw [this];omega
 ·have:=bN (x++(ah p.top.toNat 1++(ah p.kind.toNat 1++(ah p.bytes.toNat 2++ah p.at_.toNat 4)))) (ah p.a 8++(ah p.b 8++(ah p.c 8++(ah p.d 8++y)))) p.bg (q:=q+8) (k:=8) (by simp [aj,hx]) oZ
  simp only [append_assoc] at this;rw [this]
 ·have:=bN (x++ah p.top.toNat 1) (ah p.bytes.toNat 2++(ah p.at_.toNat 4++(ah p.bg 8++(ah p.a 8++(ah p.b 8++(ah p.c 8++(ah p.d 8++y))))))) p.kind.toNat (q:=q+1) (k:=1) (by simp [aj,hx]) oZ
  simp only [append_assoc] at this;rw [this];omega
 ·have:=bN (x++(ah p.top.toNat 1++(ah p.kind.toNat 1++(ah p.bytes.toNat 2++(ah p.at_.toNat 4++ah p.bg 8))))) (ah p.b 8++(ah p.c 8++(ah p.d 8++y))) p.a (q:=q+16) (k:=8) (by simp [aj,hx]) oZ
  simp only [append_assoc] at this;rw [this]
 ·have:=bN (x++(ah p.top.toNat 1++(ah p.kind.toNat 1++(ah p.bytes.toNat 2++(ah p.at_.toNat 4++(ah p.bg 8++ah p.a 8)))))) (ah p.c 8++(ah p.d 8++y)) p.b (q:=q+24) (k:=8) (by simp [aj,hx]) oZ
  simp only [append_assoc] at this;rw [this]
 ·have:=bN (x++(ah p.top.toNat 1++(ah p.kind.toNat 1++(ah p.bytes.toNat 2++(ah p.at_.toNat 4++(ah p.bg 8++(ah p.a 8++ah p.b 8))))))) (ah p.d 8++y) p.c (q:=q+32) (k:=8) (by simp [aj,hx]) oZ
  simp only [append_assoc] at this;rw [this]
 ·have:=bN (x++(ah p.top.toNat 1++(ah p.kind.toNat 1++(ah p.bytes.toNat 2++(ah p.at_.toNat 4++(ah p.bg 8++(ah p.a 8++(ah p.b 8++ah p.c 8)))))))) y p.d (q:=q+40) (k:=8) (by simp [aj,hx]) oZ
  simp only [append_assoc] at this;rw [this]
structure Fs where
 a:Nat
 b:Nat
 c:Nat
 d:Nat
deriving DecidableEq
abbrev Fs.agg (s:Fs):Value:=.agg #[.int .u64 s.a,.int .u64 s.b,.int .u64 s.c,.int .u64 s.d]
def Ax:Fs:=⟨0,0,0,0⟩
def m64:Nat:=18446744073709551616
def DJ (s:Fs)(w:Nat):Fs :=
 let a:=(s.a+w) % m64
 let b:=(s.b+a) % m64
 let c:=(s.c+b) % m64
 ⟨a,b,c,(s.d+c) % m64⟩
structure Fs.Ok (s:Fs):Prop where
 a:s.a<18446744073709551616
 b:s.b<18446744073709551616
 c:s.c<18446744073709551616
 d:s.d<18446744073709551616
theorem O4 (s:Fs)(w:Nat):(DJ s w).Ok:=⟨Nat.mod_lt _ dZ,Nat.mod_lt _ dZ,Nat.mod_lt _ dZ,Nat.mod_lt _ dZ⟩
def fsN (b:List UInt8):Nat->Fs
 | 0=>Ax
 | i+1=>DJ (fsN b i) (nm b (4*i) 4)
def aH (b:List UInt8):Fs:=fsN b ((b.length+3) / 4)
theorem ZC (b:List UInt8):∀i,(fsN b i).Ok
 | 0=>by constructor <;> (show 0<_;decide)
 | i+1=>O4 _ _
theorem nY (b:List UInt8):(aH b).Ok:=ZC b _
abbrev gb (b:List UInt8)(j:Nat):UInt8:=b.getD j 0
theorem Je (b:List UInt8)(q:Nat):nm b q 4=(gb b q).toNat+(gb b (q+1)).toNat*2 ^ 8+(gb b (q+2)).toNat*2 ^ 16+(gb b (q+3)).toNat*2 ^ 24:=by
 have key:∀c:List UInt8,numOf (c.take 4)=(c.getD 0 0).toNat+(c.getD 1 0).toNat*2 ^ 8+(c.getD 2 0).toNat*2 ^ 16+(c.getD 3 0).toNat*2 ^ 24:=by
  intro c
  match c with
  | []=>rfl
  | [x]=>simp [numOf]
  | [x,y]=>simp [numOf];omega
  | [x,y,z]=>simp [numOf];omega
  | x :: y :: z :: t :: r=>simp [numOf];omega
 have g:∀j,(b.drop q).getD j 0=gb b (q+j):=fun j=>by simp [gb,List.getD,getElem?_drop]
 unfold nm
 rw [key,g,g,g,g,Nat.add_zero]
theorem tw (b:List UInt8){j:Nat}(h:j<b.length):gb b j=b[j]:=by simp [gb,List.getD,h]
theorem ZD (b:List UInt8){j:Nat}(h:b.length<=j):gb b j=0:=by simp [gb,List.getD,getElem?_eq_none h]
theorem Ue (x y:Nat):IntKind.u64.wrap ((x:Int)+(y:Int))=(((x+y) % m64:Nat):Int):=by
 rw [IntKind.wrap_u64];unfold m64;omega
structure yo (b:List UInt8)(i:Nat)(s:Fs)(x0 x1 x2 x3:UInt8)(k:Nat):Prop where
 le:i<=b.length
 hk:k=i % 4
 hs:s=fsN b (i / 4)
 h0:x0=if 0<k then gb b (4*(i / 4)) else 0
 h1:x1=if 1<k then gb b (4*(i / 4)+1) else 0
 h2:x2=if 2<k then gb b (4*(i / 4)+2) else 0
 h3:x3=0
theorem yo.start (b:List UInt8):yo b 0 Ax 0 0 0 0 0:=⟨by omega,rfl,rfl,rfl,rfl,rfl,rfl⟩
def pk (x0 x1 x2 x3:UInt8):Nat:=x0.toNat+x1.toNat*2 ^ 8+x2.toNat*2 ^ 16+x3.toNat*2 ^ 24
theorem yo.s0 {b:List UInt8}{i:Nat}{s:Fs}{x0 x1 x2 x3:UInt8}(h:yo b i s x0 x1 x2 x3 0)(hi:i<b.length):yo b (i+1) s b[i] x1 x2 x3 1:=by
 obtain ⟨h1,h2,h3,h4,h5,h6,h7⟩:=h
 have e:(i+1) / 4=i / 4:=oZ
 exact ⟨by omega,by omega,by rw [e,h3],by rw [if_pos oZ,e,show 4*(i / 4)=i by omega,tw b hi],by rw [h5];simp,by rw [h6];simp,h7⟩
theorem yo.s1 {b:List UInt8}{i:Nat}{s:Fs}{x0 x1 x2 x3:UInt8}(h:yo b i s x0 x1 x2 x3 1)(hi:i<b.length):yo b (i+1) s x0 b[i] x2 x3 2:=by
 obtain ⟨h1,h2,h3,h4,h5,h6,h7⟩:=h
 have e:(i+1) / 4=i / 4:=oZ
 exact ⟨by omega,by omega,by rw [e,h3],by rw [h4,e];simp,by rw [if_pos oZ,e,show 4*(i / 4)+1=i by omega,tw b hi],by rw [h6];simp,h7⟩
theorem yo.s2 {b:List UInt8}{i:Nat}{s:Fs}{x0 x1 x2 x3:UInt8}(h:yo b i s x0 x1 x2 x3 2)(hi:i<b.length):yo b (i+1) s x0 x1 b[i] x3 3:=by
 obtain ⟨h1,h2,h3,h4,h5,h6,h7⟩:=h
 have e:(i+1) / 4=i / 4:=oZ
 exact ⟨by omega,by omega,by rw [e,h3],by rw [h4,e];simp,by rw [h5,e];simp,by rw [if_pos oZ,e,show 4*(i / 4)+2=i by omega,tw b hi],h7⟩
theorem yo.s3 {b:List UInt8}{i:Nat}{s:Fs}{x0 x1 x2 x3:UInt8}(h:yo b i s x0 x1 x2 x3 3)(hi:i<b.length):yo b (i+1) (DJ s (pk x0 x1 x2 b[i])) 0 0 0 0 0:=by
 obtain ⟨h1,h2,h3,h4,h5,h6,h7⟩:=h
 have e:(i+1) / 4=i / 4+1:=oZ
 refine ⟨by omega,by omega, ?_,rfl,rfl,rfl,rfl⟩
 rw [e,fsN,h3,Je,pk,h4,h5,h6,if_pos oZ,if_pos oZ,if_pos oZ,<-tw b hi,show 4*(i / 4)+3=i by omega]
theorem yo.ab5 {b:List UInt8}{s:Fs}{x0 x1 x2 x3:UInt8}(h:yo b b.length s x0 x1 x2 x3 0):s=aH b:=by
 rw [h.hs,aH];have:=h.hk;rw [show (b.length+3) / 4=b.length / 4 by omega]
theorem yo.done {b:List UInt8}{s:Fs}{x0 x1 x2 x3:UInt8}{k:Nat}(h:yo b b.length s x0 x1 x2 x3 k)(hk:k≠0):DJ s (pk x0 x1 x2 x3)=aH b:=by
 obtain ⟨h1,h2,h3,h4,h5,h6,h7⟩:=h
 have e:(b.length+3) / 4=b.length / 4+1:=oZ
 have o:∀j,(if j<k then gb b (4*(b.length / 4)+j) else 0)=gb b (4*(b.length / 4)+j):=fun j=>by
  split
  ·rfl
  ·rw [ZD b oZ]
 have o0:=o 0;have o1:=o 1;have o2:=o 2;have o3:=o 3
 rw [Nat.add_zero] at o0
 rw [aH,e,fsN,h3,Je,pk,h4,h5,h6,h7,o0,o1,o2,<-o3,if_neg oZ]
def Fs.KX (p q:Fs):Bool:=((p.a:Int)==(q.a:Int))&&(((p.b:Int)==(q.b:Int))&&(((p.c:Int)==(q.c:Int))&&((p.d:Int)==(q.d:Int))))
theorem Fs.GV (p q:Fs):p.KX q=decide (p=q):=by
 cases p;cases q
 rw [Bool.eq_iff_iff]
 simp only [Fs.KX,Bool.and_eq_true,beq_iff_eq,decide_eq_true_eq,Fs.mk.injEq]
 omega
theorem O5 (x0 x1:UInt8):bits .or .u64 (x0.toNat:Int) ((x1.toNat*2 ^ 8:Nat):Int)=((x0.toNat+x1.toNat*2 ^ 8:Nat):Int):=oru (by have:=x0.toNat_lt;omega) (by have:=x0.toNat_lt;have:=x1.toNat_lt;omega)
theorem O6 (x0 x1 x2:UInt8):bits .or .u64 ((x0.toNat+x1.toNat*2 ^ 8:Nat):Int) ((x2.toNat*2 ^ 16:Nat):Int)=((x0.toNat+x1.toNat*2 ^ 8+x2.toNat*2 ^ 16:Nat):Int):=oru (by have:=x0.toNat_lt;have:=x1.toNat_lt;omega) (by have:=x0.toNat_lt;have:=x1.toNat_lt;have:=x2.toNat_lt;omega)
theorem O7 (x0 x1 x2 x3:UInt8):bits .or .u64 ((x0.toNat+x1.toNat*2 ^ 8+x2.toNat*2 ^ 16:Nat):Int) ((x3.toNat*2 ^ 24:Nat):Int)=((pk x0 x1 x2 x3:Nat):Int):=oru (by have:=x0.toNat_lt;have:=x1.toNat_lt;have:=x2.toNat_lt;omega) (by have:=x0.toNat_lt;have:=x1.toNat_lt;have:=x2.toNat_lt;have:=x3.toNat_lt;omega)
theorem Ay {x:UInt8}(j:Nat)(h:j<=24):IntKind.u64.wrap ((x.toNat:Int)*2 ^ ((j:Nat):Int).toNat)=((x.toNat*2 ^ j:Nat):Int):=abt (by
 have:=x.toNat_lt
 have:2 ^ j<=2 ^ 24:=Nat.pow_le_pow_right oZ h
 calc x.toNat*2 ^ j<=256*2 ^ 24:=Nat.mul_le_mul oZ this
  _<_:=by decide)
end Go.Sl
namespace Go.Proofs.YtpabnmeponmonaaGreatDoor
theorem O8 (s:Fs)(x0 x1 x2 x3:UInt8):Ct 288 [s.agg,.agg #[.int .u8 x0.toNat,.int .u8 x1.toNat,.int .u8 x2.toNat,.int .u8 x3.toNat]] [] fun u Bs=>u=(DJ s (pk x0 x1 x2 x3)).agg/\Bs=[]:=by
 have w1:IntKind.u64.wrap ((x1.toNat:Int)*2 ^ (8:Int).toNat)=((x1.toNat*2 ^ 8:Nat):Int):=Ay 8 oZ
 have w2:IntKind.u64.wrap ((x2.toNat:Int)*2 ^ (16:Int).toNat)=((x2.toNat*2 ^ 16:Nat):Int):=Ay 16 oZ
 have w3:IntKind.u64.wrap ((x3.toNat:Int)*2 ^ (24:Int).toNat)=((x3.toNat*2 ^ 24:Nat):Int):=Ay 24 oZ
 have o1:=O5 x0 x1
 have o2:=O6 x0 x1 x2
 have o3:=O7 x0 x1 x2 x3
 have h1:=Ue s.a (pk x0 x1 x2 x3)
 have h2:=Ue s.b ((s.a+pk x0 x1 x2 x3) % m64)
 have h3:=Ue s.c ((s.b+(s.a+pk x0 x1 x2 x3) % m64) % m64)
 have h4:=Ue s.d ((s.c+(s.b+(s.a+pk x0 x1 x2 x3) % m64) % m64) % m64)
 refine st func288 fun w0 => ?_
 refine ga ?_;intro b1
 refine ga ?_;intro b2
 refine ga ?_;intro b3
 refine gz ?_
 exact fin ⟨rfl,rfl⟩ aa
abbrev ZE (s:Fs)(x0 x1 x2 x3:UInt8)(k:Nat):Obj:=ax [.int .u64 s.a,.int .u64 s.b,.int .u64 s.c,.int .u64 s.d,.int .u8 x0.toNat,.int .u8 x1.toNat,.int .u8 x2.toNat,.int .u8 x3.toNat,.int .i64 k] 375
theorem ab6 (O:Chunk)(v:Value)(b:List UInt8)(m:Nat)(hm:b.length=m)(hO:Rd O 1 v m (au b))(dP:m<=1000000)(p:Nat):Ct 272 [ptr p,v] [[(p,ZE Ax 0 0 0 0 0)],O] fun _ Bs=>∃s x0 x1 x2 x3 k,yo b b.length s x0 x1 x2 x3 k/\Bs=[[(p,ZE s x0 x1 x2 x3 k)],O]:=by
 subst hm
 obtain ⟨ad,c,rfl⟩:=hO.slice
 refine st func272 fun w0 => ?_
 refine gl [0,6,7] (fun ((i,_):Nat×Fs×UInt8×UInt8×UInt8×UInt8×Nat)=>[(8,.int .i64 i)]) (fun (_,s,x0,x1,x2,x3,k)=>[[(p,ZE s x0 x1 x2 x3 k)]]) (fun (i,s,x0,x1,x2,x3,k)=>yo b i s x0 x1 x2 x3 k) (fun q=>b.length - q.1) (0,Ax,0,0,0,0,0) (yo.start b) ?_
 rintro ⟨i,s,x0,x1,x2,x3,k⟩ hR
 simp only at hR
 have hi:=hR.le
 have hk:=hR.hk
 refine gi ?_ ?_ <;> intro br
 ·have O9:i<b.length:=oZ
  have hx:b[i]? = some b[i]:=getElem?_eq_getElem O9
  obtain ⟨g,off,rfl⟩:=hO.addr oZ
  have Nr:k=0\/k=1\/k=2\/k=3:=oZ
  rcases Nr with rfl | rfl | rfl | rfl
  ·refine gn ?_
   exact ⟨(i+1,s,b[i],x1,x2,x3,1),hR.s0 O9,sOZ,ar,_,aa⟩
  ·refine gn ?_
   exact ⟨(i+1,s,x0,b[i],x2,x3,2),hR.s1 O9,sOZ,ar,_,aa⟩
  ·refine gn ?_
   exact ⟨(i+1,s,x0,x1,b[i],x3,3),hR.s2 O9,sOZ,ar,_,aa⟩
  ·refine gd [0,4,8,12,16,20,24,28,32,37,40,44,51] ?_
   refine gc (O8 s x0 x1 x2 b[i]) ?_
   rintro _ _ ⟨rfl,rfl⟩
   refine gn ?_
   exact ⟨(i+1,_,0,0,0,0,0),hR.s3 O9,sOZ,ar,_,aa⟩
 ·obtain rfl:i=b.length:=oZ
  refine gz ?_
  exact fin ⟨s,x0,x1,x2,x3,k,hR,rfl⟩ aa
end Go.Proofs.YtpabnmeponmonaaGreatDoor
