/-
  Texts put together (5).
-/
import Derived.Test.YtcfioaeamfappaaGreatDoorZTopFull4
namespace Go.Sl
def Sw (T:aU)(t:TypeId):Bool:=match T.ko t with
 | some (.pointer _)=>true
 | _=>false
theorem HS {P:Program}{T:aU}(hT:T.Ok P){t:TypeId}(h:Sw T t=true):∃e,P.underlying t=some (.pointer e):=by
 unfold Sw at h
 split at h
 ·rename_i e h1;exact ⟨e,aU.aR hT h1⟩
 ·cases h
def mtd (P:Program)(t:TypeId)(name:String):Option FuncId:=match P.info? t with
 | some i=>match i.methods.find? (·.name==name) with
  | some m=>match m.path,m.func with
   | ⟨[]⟩,some (f,true)=>some f
   | _,_=>none
  | none=>none
 | none=>none
theorem Sx {P:Program}{w:World}{t e:TypeId}{v:Value}{name:String}{f:FuncId}{n:Nat}(h:mtd P t name=some f)(hu:P.underlying t=some (.pointer e)):(method (n+1) t v name).run P w = .ok (f,v) w:=by
 unfold mtd at h
 split at h
 ·rename_i i hi
  split at h
  ·rename_i m hm
   split at h
   ·rename_i h1 h2
    cases h
    simp [method,typeInfo,hi,hm,h1,follow,h2,receiverAt,run_underlying hu,Place.get]
   ·cases h
  ·cases h
 ·cases h
def uB (P:Program)(t asserted:TypeId):Bool:=match P.underlying asserted,P.info? t with
 | some (.interface want),some i=>(Instr.missingMethod want i.methods).isNone
 | _,_=>false
section
variable {X:Cx}{f:Fx}{k:Kt}{e:Env}{Ls Rs:List Chunk}{ops:List Oper}{Ms:List Chunk}{r':aA}{κ d:Nat}{v:Value}{t:TypeId}{x:Operand}{xs:List Operand}{ts:Array TypeId}{g:FuncId}{fn:Func}{vs:List Value}
theorem WD.mkIf (hκ:calm κ=true)(hx:ev e x=some v)(hT:X.T.Ok X.P)(ht:Sw X.T t=true)
  (g:WO X f ops k Ms r' ((d,.iface t v) :: e) Ls):WD X f ops k Ms κ (some d) (.makeInterface t x) r' e Ls:=by
 obtain ⟨el,hu⟩:=HS hT ht
 refine .rd hκ (fun _ _ w ho E _ => ?_) g
 have hm:(Instr.makeInterface t v).run X.P w = .ok (.iface t v) w:=run_makeInterface w t v (by simp [Program.concrete,hu])
 simp [ab,execOp,ho,E.eval hx,hm]
theorem WD.tAs {xt asd:TypeId}(hκ:calm κ=true)(hx:ev e x=some (.iface t v))(hm:uB X.P t asd=true)
  (g:WO X f ops k Ms r' ((d,.tuple #[.iface t v,.bool true]) :: e) Ls):WD X f ops k Ms κ (some d) (.typeAssert x xt asd true) r' e Ls:=by
 unfold uB at hm
 split at hm
 ·rename_i want i hu hi
  refine .rd hκ (fun _ _ w ho E _ => ?_) g
  have hn:Instr.missingMethod want i.methods=none:=by simpa using hm
  simp [ab,execOp,ho,E.eval hx,Instr.typeAssert,run_underlying hu,typeInfo,hi,hn]
 ·cases hm
theorem WD.inv {name:String}{Rs:List Chunk}(hκ:dD κ=true)(hx:ev e x=some (.iface t v))(X6:HB e xs=some vs)(hT:X.T.Ok X.P)(ht:Sw X.T t=true)
  {As:List Value} {Bs:List Chunk} {cp:Value->List Chunk->Prop} (s:LJ X.P g As Bs cp) (hf:zh X.T g=some fn) (hm:mtd X.P t name=some g) (hv:v :: vs=As) (hs:gH Ls Bs Rs) (hg:∀u Cs,cp u Cs->WC X f ops k Ms κ r' ((d,u) :: e) Cs Rs):WD X f ops k Ms κ (some d) (.call ⟨.invoke x name,⟨xs⟩,ts⟩) r' e Ls:=by
 subst hv
 obtain ⟨h1,h2,h3⟩:=pv hT hf
 obtain ⟨el,hu⟩:=HS hT ht
 refine .ac hκ fun o a w ho hd hn E S => ?_
 have hr:R7 X.P g (v :: vs).toArray w fun u w'=>∃bg,St X.w0 X.As w' bg/\cJ κ Ms bg/\WO X f ops k Ms r' ((d,u) :: e) bg:=(s w (by have:=(S.r8 hs).hp;exact Hp.sel this (List.Perm.refl _))).mono fun u w' ⟨Cs,hp,ht⟩=>by
  obtain ⟨h1,h2⟩:=hg u Cs hp
  exact ⟨_,(S.r8 hs).call (List.Perm.refl _) ht,h1,h2⟩
 have fin:R7 X.P g (v :: vs).toArray w fun u w'=>KO X f ops k Ms κ r' (a.put o.dst u) w':=hr.mono fun u w' ⟨bg,S',hk,hg⟩=>by
  rw [hd];exact KO.mk rfl hk hg (E.put (hn d rfl) u) S'
 unfold Oper.wp
 have dC:(execOp a.eval o).run X.P w = .ok (.enter g (v :: vs).toArray) w:=by
  obtain ⟨dp,hdp⟩:∃dp,Made.depth=dp+1:=⟨Made.depth - 1,by decide⟩
  have hme:=Sx (w:=w) (v:=v) (n:=X.P.types.size+dp) hm hu
  have hL:xs.map a.eval=vs:=E.rV X6
  rw [Nat.add_assoc,<-hdp] at hme
  rw [<-hL]
  simp [execOp,ho,resolve,E.eval hx,invoke,callMethod,hme,iS h1 h2 h3]
  exact List.take_of_length_le (by simp)
 rw [dC]
 refine Calls.mono fin ?_
 rintro en w' ⟨v,rfl,h⟩
 exact h
end
end Go.Sl
namespace Go.Proofs.YtcfioaeamfappaaGreatDoor
open Go.Sl
theorem gmi {G H:Prop}(k:H)(h:gE H->G:=by
 intro kk;refine go ?_;refine WO.dec rfl ?_;apply WD.mkIf;exact rfl;exact rfl;exact aB;exact rfl;exact kk.out):G:=h ⟨k⟩
theorem gta {G H:Prop}(k:H)(h:gE H->G:=by
 intro kk;refine go ?_;refine WO.dec rfl ?_;apply WD.tAs;exact rfl;exact rfl;(show uB Tryz.prog _ _=true;kernel_rfl);exact kk.out):G:=h ⟨k⟩
theorem gj {G H:Prop}{g:FuncId}{args:List Value}{As:List Chunk}{cp:Value->List Chunk->Prop}(s:Ct g args As cp)(k:H)(h:Ct g args As cp->gE H->G:=by
 intro ss kk;refine go ?_;refine WO.dec rfl ?_
 apply WD.inv (s:=ss);(case hκ=>exact rfl);(case hx=>exact rfl);(case X6=>exact rfl);(case hT=>exact aB);(case ht=>exact rfl);(case hf=>exact rfl);(case hm=>(show mtd Tryz.prog _ _=some _;kernel_rfl));(case hv=>(first | exact rfl | (simp;done) | (congr;done)));(case hs=>exact aa);exact kk.out):G:=h s ⟨k⟩
end Go.Proofs.YtcfioaeamfappaaGreatDoor
namespace Go.Sl
structure Sy (σ:Type) where
 s0:σ
 nx:σ->List Value->σ->Prop
 sk:σ->σ->Prop
 fi:σ->Prop
def Nj {σ:Type}(P:Program)(g:FuncId)(cap:List Value)(Cs B0:List Chunk)(I:Sy σ):Prop :=
 ∀(w0:World) (As:List Chunk) (J:σ->List Chunk->Prop) (n7:List Chunk->Prop) (l:Nat) (rc:Loop) (w:World) (Ls:List Chunk),
  St w0 As w ([(l,.loop rc)] :: (Cs++Ls))->(∀C∈B0,C∈Ls)->J I.s0 Ls->(∀s s' Ls,I.sk s s'->J s Ls->J s' Ls) ->
  (∀s vs s' Ls w,I.nx s vs s'->J s Ls->St w0 As w ([(l,.loop rc)] :: (Cs++Ls))->vs.length=rc.params.size /\
   RoundIn Fence.wide 0 P l rc.fn ((rc.params.zip vs.toArray).foldl (fun tmps x=>tmps.setIfInBounds x.1 x.2) rc.tmps) rc.assign rc.body w fun en w' =>
    (en = .returned (.bool true)/\∃bg,St w0 As w' ([(l,.loop rc)] :: (Cs++bg))/\J s' bg)\/(en = .returned (.bool false)/\∃bg,St w0 As w' ([(l,.loop (xV rc))] :: (Cs++bg))/\n7 bg)) ->
  CallsIn Fence.wide 0 P g (.func (.yield l) #[] #[] :: cap).toArray w fun en w'=>∃v,en = .returned v /\
   ((∃s bg,I.fi s/\St w0 As w' ([(l,.loop rc)] :: (Cs++bg))/\J s bg)\/(∃bg,St w0 As w' ([(l,.loop (xV rc))] :: (Cs++bg))/\n7 bg))
section
variable {P:Program}{T:aU}{w0:World}{As:List Chunk}{f:Fx}{k:Kt}{e:Env}{Ls Rs:List Chunk}
theorem WS.X7 {σ:Type}{VW:Operand}{ps:List Nat}{assign body:Code}{g:FuncId}{fn:Func}{cap:List Value}{Cs B0:List Chunk}{I:Sy σ}(hI:Nj P g cap Cs B0 I)(J:σ->List Chunk->Prop)(n7:List Chunk->Prop)(hk:k.plain=true)
  (hg:ev e VW=some (.func (.func g) #[] cap.toArray)) (hT:T.Ok P) (hf:zh T g=some fn) (hs:gH Ls Cs Rs) (hB:∀C∈B0,C∈Rs) (h0:J I.s0 Rs) (hsk:∀s s' Ls,I.sk s s'->J s Ls->J s' Ls)
  (hr:∀rc l r s vs s' bg,I.nx s vs s'->J s bg->∃V,Rx f.n ps vs V/\WS ⟨P,T,w0,As,some l,[]⟩ f assign (Ka P w0 As Cs l r rc (J s') n7 body) (V++e) ([(l,.loop rc)] :: (Cs++([(r,.deferred (some []))] :: bg))))
  (hy:∀r s bg,I.fi s->J s bg->WE ⟨P,T,w0,As,none,[⟨.collected r,#[]⟩]⟩ f .normal k e ([(r,.deferred (some []))] :: (Cs++bg)))
  (hn:∀r bg,n7 bg->WE ⟨P,T,w0,As,none,[⟨.collected r,#[]⟩]⟩ f .ret k e ([(r,.deferred (some []))] :: (Cs++bg))):WS ⟨P,T,w0,As,none,[]⟩ f (.rangeFunc VW ps.toArray assign body) k e Ls:=⟨fun a w E S=>by
 obtain ⟨f1,f2,f3⟩:=pv hT hf
 refine (wpIn_wide (n:=0)).2 (xW E (S.r8 hs) hg f1 f2 f3 fun rc l r w1 hL S1 => ?_)
 have pe:∀ {x y:Chunk} {A B:List Chunk},(x :: y :: (A++B)).Perm (x :: (A++(y :: B))):=fun {x y A B}=>(List.perm_middle.symm).cons x
 have pi:∀ {x y:Chunk} {A B:List Chunk},(x :: (A++(y :: B))).Perm (x :: y :: (A++B)):=fun {x y A B}=>(List.perm_middle).cons x
 have S1':St w0 As w1 ([(l,.loop rc)] :: (Cs++([(r,.deferred (some []))] :: Rs))):=S1.perm pe
 refine CallsIn.mono (hI w0 As (fun s L=>∃L0,L=[(r,.deferred (some []))] :: L0/\J s L0) (fun L=>∃L0,L=[(r,.deferred (some []))] :: L0/\n7 L0) l rc w1 _ S1' (fun C hC=>List.mem_cons_of_mem _ (hB C hC)) ⟨Rs,rfl,h0⟩ ?_ ?_) ?_
 ·rintro s s' _ hs ⟨L0,rfl,hJ⟩;exact ⟨L0,rfl,hsk s s' L0 hs hJ⟩
 ·rintro s vs s' _ w2 qD ⟨L0,rfl,hJ⟩ S2
  obtain ⟨V,hp,hW⟩:=hr rc l r s vs s' L0 qD hJ
  refine ⟨by rw [hL.pr];simpa using hp.len.symm, ?_⟩
  refine RoundIn.mono (Nb (R:=RE P w0 As Cs l r rc (J s') n7) hL S2 E hp fun a2 E2=>hW.ap a2 w2 E2 S2) ?_
  rintro en w3 (⟨rfl,L',S3,X8⟩ | ⟨rfl,L',S3,X8⟩)
  ·exact .inl ⟨rfl,_,S3,L',rfl,X8⟩
  ·exact .inr ⟨rfl,_,S3,L',rfl,X8⟩
 ·rintro en w3 ⟨v,rfl,⟨s,_,AZ,S3,L0,rfl,hJ⟩ | ⟨_,S3,L0,rfl,hJ⟩⟩
  ·refine ⟨v,rfl,.inl ⟨_,S3.perm pi,fun w4 S4 a' E' => ?_⟩⟩
   have:=(hy r s L0 AZ hJ).ap a' w4 E' S4
   rwa [Kt.Na hk] at this
  ·refine ⟨v,rfl,.inr ⟨_,S3.perm pi,fun w4 S4 a' E' => ?_⟩⟩
   have:=(hn r L0 hJ).ap a' w4 E' S4
   rwa [Kt.Na hk] at this⟩
structure JP {σ:Type}(J:σ->List Chunk->Prop)(n7:List Chunk->Prop):Prop
theorem WS.X9 {σ:Type}{VW:Operand}{ps:List Nat}{assign body:Code}{g:FuncId}{fn:Func}{cap:List Value}{Cs B0:List Chunk}{I:Sy σ}(hI:Nj P g cap Cs B0 I){J:σ->List Chunk->Prop}{n7:List Chunk->Prop}(_:JP J n7)(hk:k.plain=true)
  (hg:ev e VW=some (.func (.func g) #[] cap.toArray)) (hT:T.Ok P) (hf:zh T g=some fn) (hs:gH Ls Cs Rs) (hB:∀C∈B0,C∈Rs) (h0:J I.s0 Rs) (hsk:∀s s' Ls,I.sk s s'->J s Ls->J s' Ls)
  (hr:∀rc l r s vs s' bg,I.nx s vs s'->J s bg->∃V,Rx f.n ps vs V/\WS ⟨P,T,w0,As,some l,[]⟩ f assign (Ka P w0 As Cs l r rc (J s') n7 body) (V++e) ([(l,.loop rc)] :: (Cs++([(r,.deferred (some []))] :: bg))))
  (hy:∀r s bg,I.fi s->J s bg->WE ⟨P,T,w0,As,none,[⟨.collected r,#[]⟩]⟩ f .normal k e ([(r,.deferred (some []))] :: (Cs++bg)))
  (hn:∀r bg,n7 bg->WE ⟨P,T,w0,As,none,[⟨.collected r,#[]⟩]⟩ f .ret k e ([(r,.deferred (some []))] :: (Cs++bg))):WS ⟨P,T,w0,As,none,[]⟩ f (.rangeFunc VW ps.toArray assign body) k e Ls:=WS.X7 hI J n7 hk hg hT hf hs hB h0 hsk hr hy hn
end
end Go.Sl
namespace Go.Proofs.YtcfioaeamfappaaGreatDoor
open Go.Sl
theorem stM {g:FuncId}{args:List Value}{As:List Chunk}{cp:Value->List Chunk->Prop}{fn:Func}{c:Code}{n:Nat}{e:Env}(hf:Tryz.prog.funcs[g]? = some fn)(h:∀w0,WS ⟨Tryz.prog,JE,w0,As,none,[]⟩ ⟨fn,n,qV cp⟩ c (Sn Tryz.prog w0 As fn cp) e As)
 (hb:fn.body=some c:=by exact rfl) (hn:fn.ntmps=n:=by exact rfl) (hs:Nat.ble args.length n=true:=by exact rfl) (he:num 0 args=e:=by exact XS):Ct g args As cp:=LJ.mkM (T:=JE) hf hb hn hs he h
theorem gfr {G H1 H2 H3 H4 H5:Prop}{σ:Type}{g:FuncId}{cap:List Value}{Cs B0:List Chunk}{I:Sy σ}(hI:Nj Tryz.prog g cap Cs B0 I)(J:σ->List Chunk->Prop)(n7:List Chunk->Prop)(k1:H1)(k2:H2)(k3:H3)(k4:H4)(k5:H5)(h:Nj Tryz.prog g cap Cs B0 I->JP J n7->gE H1->gE H2->gE H3->gE H4->gE H5->G:=by
 intro hi jp k1 k2 k3 k4 k5;refine go ?_
 apply WS.X9 hi jp;exact rfl;exact rfl;exact aB;exact rfl;exact aa;(repeat (first | exact Nd | (apply Nf;exact mem)));exact k1.out;exact k2.out;exact k3.out;exact k4.out;exact k5.out):G:=h hI ⟨⟩ ⟨k1⟩ ⟨k2⟩ ⟨k3⟩ ⟨k4⟩ ⟨k5⟩
theorem gas {G H:Prop}(k:H)(h:gE H->G:=by intro kk;refine go ?_;refine WE.asg ?_;exact kk.out):G:=h ⟨k⟩
theorem gm1 {G H:Prop}(k:H)(h:gE H->G:=by
 intro kk;refine go ?_;(try refine WE.ae4 ?_);(try refine uu ?_)
 first
 | (apply WE.aaC;exact rfl;exact rfl;exact rfl;exact Sv;exact pick;exact kk.out)
 | (apply WE.XJ;exact rfl;exact aB;exact rfl;exact pick;exact rrs;exact Sv;exact kk.out)):G:=h ⟨k⟩
structure KI (i:IntKind):Prop
section
variable {X:Cx}{f:Fx}{k:Kt}{e:Env}{Ls Ms:List Chunk}{ops:List Oper}{r':aA}{κ d:Nat}{t:TypeId}
theorem WD.acW {el tx:TypeId}{x y:Operand}{iG m s:Nat}{kk:IntKind}{q:Int}{zv:Value}(hκ:dD κ=true)(hx:ev e x=some (.slice none 0 0))(hy:ev e y=some (.int kk q))(hT:X.T.Ok X.P)(hq:q=(m:Int))(hi:HO X.T t=some (el,s,iG,zv))(tY:X.T.ko tx=some (.int kk))(hb:0<s/\0<m/\m<=9223372036854775807/\m*iG<=140737488355328)
  (hM:cJ κ Ms Ls) (g:∀g c l,m<=c->c<=maxLen->l.length=c*s->WO X f ops k Ms r' ((d,.slice (some ⟨g,0,none⟩) m c) :: e) ([(g,av l el)] :: Ls)):WD X f ops k Ms κ (some d) (.call ⟨.builtin .append,⟨[x,y]⟩,⟨[t,tx]⟩⟩) r' e Ls:=by
 obtain ⟨i,g1,g2,g3,g4,g5,g6⟩:=iH hT hi
 exact .ac hκ fun _ _ w ho hd hn E S=>FA E S ho hd (hn d rfl) hx hy hq g1 (aU.aR hT tY) g2 g3 g4 g5 g6 hb.1 hb.2.1 hb.2.2.1 hb.2.2.2 fun _ _ b c l E' S' h1 h2 h3=>KO.mk rfl (fun h C hC=>List.mem_cons_of_mem _ (hM h C hC)) (g b c l h1 h2 h3) E' S'
theorem WD.Ya {i:IntKind}(_:KI i)(hκ:dD κ=true)(hM:cJ κ Ms Ls)(g:∀r C,Mp r i [] C->WO X f ops k Ms r' ((d,.map (some r)) :: e) (C :: Ls)):WD X f ops k Ms κ (some d) (.makeMap t none) r' e Ls:=.mkMap hκ i hM g
end
theorem uC {G H:Prop}(i:IntKind)(k:H)(h:KI i->gE H->G:=by
 intro ki kk;refine go ?_;refine WO.dec rfl ?_
 apply WD.Ya ki;exact rfl;exact keeps;exact kk.out):G:=h ⟨⟩ ⟨k⟩
theorem gpz {G H:Prop}(k:H)(h:gE H->G:=by
 intro kk;refine go ?_;refine WO.dec rfl ?_
 apply WD.acW;exact rfl;exact rfl;exact rfl;exact aB;exact mh;exact rfl;exact rfl;(refine ⟨?_, ?_, ?_, ?_⟩ <;> omega);exact keeps;exact kk.out):G:=h ⟨k⟩
section
variable {X:Cx}{f:Fx}{k:Kt}{e:Env}{Ls Ms:List Chunk}{ops:List Oper}{r':aA}{κ d:Nat}{t:TypeId}
theorem WD.aaT {el:TypeId}{x y:Operand}{zv:Value}{iG m s:Nat}{kl kc:IntKind}{q q':Int}(hκ:dD κ=true)(hx:ev e x=some (.int kl q))(hy:ev e y=some (.int kc q'))(hT:X.T.Ok X.P)(hi:HO X.T t=some (el,s,iG,zv))(hq:q=0)(mZ:q'=(m:Int))(hb:iG*m<=281474976710656/\m<=maxLen)
  (hM:cJ κ Ms Ls) (g:∀b C,az C el s (.slice (some ⟨b,0,none⟩) 0 m) 0 []->WO X f ops k Ms r' ((d,.slice (some ⟨b,0,none⟩) 0 m) :: e) (C :: Ls)):WD X f ops k Ms κ (some d) (.makeSlice t x y) r' e Ls:=by
 obtain ⟨i,g1,g2,g3,g4,g5,g6⟩:=iH hT hi
 subst hq mZ g4 g6
 refine .ac hκ fun o a w ho hd hn E S => ?_
 have tT:(m:Int)<=9223372036854775807:=by have:=hb.2;simp only [maxLen] at this;omega
 have Ji:(i.bytes:Int)*(m:Int)<=281474976710656:=by
  have h:((i.bytes*m:Nat):Int)<=281474976710656:=by omega
  rwa [Int.natCast_mul] at h
 have hr:=run_make (P:=X.P) (w:=w) t el i zv g1 g2 g3 kl kc 0 m (Int.le_refl _) oZ Ji tT
 simp only [Int.toNat_natCast] at hr
 have dC:ab X.P o a w (.slice (some ⟨w.heap.size,0,none⟩) 0 m) (w.alloc (.cells (madeCells zv.cells (m*i.size)) el)):=by
  simp [ab,execOp,ho,E.eval hx,E.eval hy,hr]
 refine dC.wp ?_
 rw [hd]
 refine KO.mk rfl (fun h C hC=>List.mem_cons_of_mem _ (hM h C hC)) (g w.heap.size [(w.heap.size,.cells (madeCells zv.cells (m*i.size)) el)] ?_) (E.put (hn d rfl) _) (S.alloc _)
 have hlen:(kh zv.cells (m*i.size)).length=m*i.size:=by simp [kh,madeCells]
 exact ⟨by simp,by simp,.inr ⟨w.heap.size,m,kh zv.cells (m*i.size),rfl,by simp [kh],by omega,hb.2,by simp [hlen]⟩⟩
end
theorem acX {G H:Prop}(k:H)(h:gE H->G:=by
 intro kk;refine go ?_;refine WO.dec rfl ?_
 apply WD.aaT;exact rfl;exact rfl;exact rfl;exact aB;exact rfl;exact rfl;exact mh;exact szs;exact keeps;exact kk.out):G:=h ⟨k⟩
end Go.Proofs.YtcfioaeamfappaaGreatDoor
namespace Go.Sl
section
variable {P:Program}
theorem BM {D d:Nat}{F:TypeId->List Value->List Value->Option Bool}(hF:F=bX P d)(w:World)(em:Bool)
  (ih:∀t us vs r u,bX P d t us vs=some r->er P t us=some u->(Instr.checkKey em D t u).run P w = .ok () w) :
  ∀(fs:List Field) (us vs:List Value) (r:Bool),qQ P F fs us vs=some r ->
   ((forIn fs PUnit.unit fun f _=>if f.name ≠ "_" then do Instr.checkKey em D f.type (<- part f.type us.toArray f.offset);pure (ForInStep.yield PUnit.unit) else pure (ForInStep.yield PUnit.unit):Sem PUnit)).run P w = .ok () w
 | [],us,vs,r,h=>by simp
 | f :: fs,us,vs,r,h=>by
  subst hF
  unfold qQ at h
  cases hn:(f.name == "_") with
  | true=>simp [hn] at h
  | false =>
   simp only [hn,cond_false] at h
   have eP:f.name ≠ "_":=by simpa using hn
   cases hi:P.info? f.type with
   | none=>simp [hi] at h
   | some i =>
    simp only [hi] at h
    cases hl:(Nat.blt us.length (f.offset+i.size)||Nat.blt vs.length (f.offset+i.size)) with
    | true=>simp [hl] at h
    | false =>
     simp only [hl,cond_false] at h
     have s7:f.offset+i.size<=us.length:=by
      simp only [Bool.or_eq_false_iff] at hl
      have h1:=hl.1
      rw [<-Bool.not_eq_true,Nat.blt_eq] at h1
      omega
     cases hp:bX P d f.type ((us.drop f.offset).take i.size) ((vs.drop f.offset).take i.size) with
     | none=>simp [hp] at h
     | some p =>
      simp only [hp] at h
      obtain ⟨hu,⟨u,MF⟩, -⟩:=nS hp
      have e1:=ua w hi hu s7 MF
      have e2:=ih _ _ _ _ _ hp MF
      have nT:∃q,qQ P (bX P d) fs us vs=some q:=by
       cases fs with
       | nil=>exact ⟨true,rfl⟩
       | cons g gs =>
        simp only at h
        cases hq:qQ P (bX P d) (g :: gs) us vs with
        | none=>simp [hq] at h
        | some q=>exact ⟨q,rfl⟩
      obtain ⟨q,hq⟩:=nT
      simp only [List.forIn_cons,Sem.run_bind,eP,ne_eq,not_false_eq_true,if_true,Result.andThen_ok,e1,e2,Sem.run_pure]
      exact BM rfl w em ih fs us vs q hq
theorem sa (w:World)(em:Bool):∀(d j:Nat) (t:TypeId) (us vs:List Value) (r:Bool) (u:Value),bX P d t us vs=some r->er P t us=some u->(Instr.checkKey em (d+j) t u).run P w = .ok () w
 | 0,_,_,_,_,_,_,h,_=>by cases h
 | d+1,j,t,us,vs,r,u,h,hu=>by
  unfold bX at h
  rw [show d+1+j=(d+j)+1 by omega]
  split at h
  ·rename_i k0 hk
   simp [Instr.checkKey,run_underlying hk]
  ·rename_i hk
   simp [Instr.checkKey,run_underlying hk]
  ·rename_i fs hk
   have hb:dt P t=true:=by simp [dt,hk]
   simp only [er,hb,cond_true,Option.some.injEq] at hu
   subst hu
   rw [Instr.checkKey]
   simp only [Sem.run_bind,run_underlying hk,Result.andThen_ok]
   rw [<-Array.forIn_toList]
   have q:=BM rfl w em (fun t us vs r u h1 h2=>sa w em d j t us vs r u h1 h2) fs.toList us vs r h
   rw [q];simp
  ·cases h
end
def BN {α:Type}(lay:α->List Value)(r:Nat)(L:List α)(C:Chunk):Prop:=∃(es:List MapEntry) (clock:Nat),es.map (fun m=>(m.key,m.val))=L.map (fun u=>(Value.agg (lay u).toArray,Value.bool true))/\C=[(r,.map es.toArray clock)]
theorem BN.start {α:Type}{lay:α->List Value}{r:Nat}{k:IntKind}{C:Chunk}(h:Mp r k [] C):BN lay r [] C:=by
 obtain ⟨Ms,clock,h1, -,rfl⟩:=h
 rw [List.map_eq_nil_iff] at h1
 subst h1
 exact ⟨[],clock,rfl,rfl⟩
structure qW {α:Type}[DecidableEq α](T:aU)(P:Program)(kt:TypeId)(lay:α->List Value):Prop where
 eq:∀x y,XA T 8 kt (lay x) (lay y)=some (decide (x=y))
 nh:k9 P 8 kt=true
 ag:dt P kt=true
 st:∃fs,T.ko kt=some (.struct fs)
 sb:∀x,Instr.sameBits 10000 (.agg (lay x).toArray) (.agg (lay x).toArray)=true
section
variable {α:Type}[DecidableEq α]{T:aU}{P:Program}{kt t et:TypeId}{lay:α->List Value}{w:World}
theorem qW.equal (h:qW T P kt lay)(hT:T.Ok P)(x y:α):(Op.equal kt (.agg (lay x).toArray) (.agg (lay y).toArray)).run P w = .ok (decide (x=y)) w :=
 jO w 8 9992 kt _ _ _ _ _ (ux hT _ _ _ _ _ (h.eq x y)) h.nh (by simp only [er,h.ag,cond_true]) (by simp only [er,h.ag,cond_true])
theorem qW.check (h:qW T P kt lay)(hT:T.Ok P)(x:α)(em:Bool):(Instr.checkKey em 10000 kt (.agg (lay x).toArray)).run P w = .ok () w :=
 sa w em 8 9992 kt _ _ _ _ (ux hT _ _ _ _ _ (h.eq x x)) (by simp only [er,h.ag,cond_true])
theorem qW.find (h:qW T P kt lay)(hT:T.Ok P)(x:α):∀(L:List α) (es:List MapEntry) (i:Nat),es.map (fun m=>(m.key,m.val))=L.map (fun u=>(Value.agg (lay u).toArray,Value.bool true)) ->
  ((Instr.findAsking kt (.agg (lay x).toArray) es i).run P w = .ok none w/\x∉L)\/∃A m B,es=A++m :: B/\m.key = .agg (lay x).toArray/\m.val = .bool true/\x∈L/\(Instr.findAsking kt (.agg (lay x).toArray) es i).run P w = .ok (some (i+A.length,.bool true)) w
 | [],es,i,he=>by
  rw [List.map_nil,List.map_eq_nil_iff] at he
  subst he
  exact .inl ⟨by simp [Instr.findAsking],by simp⟩
 | y :: L,[],i,he=>by cases he
 | y :: L,m :: es,i,he=>by
  simp only [List.map_cons,List.cons.injEq,Prod.mk.injEq] at he
  obtain ⟨⟨hk,hv⟩,he⟩:=he
  have e1:=h.equal (w:=w) hT x y
  by_cases c:x=y
  ·subst c
   refine .inr ⟨[],m,es,rfl,hk,hv,by simp, ?_⟩
   simp [Instr.findAsking,hk,e1,hv]
  ·have e1:(Op.equal kt (.agg (lay x).toArray) m.key).run P w = .ok false w:=by rw [hk,e1];simp [c]
   rcases h.find hT x L es (i+1) he with ⟨q1,q2⟩ | ⟨A,n,B,rfl,q2,q3,q4,q5⟩
   ·exact .inl ⟨by simp [Instr.findAsking,e1,q1],by simp [c,q2]⟩
   ·refine .inr ⟨m :: A,n,B,rfl,q2,q3,List.mem_cons_of_mem _ q4, ?_⟩
    rw [show i+(m :: A).length=i+1+A.length by simp only [List.length_cons];omega]
    simp [Instr.findAsking,e1,q5]
theorem qW.findKey (h:qW T P kt lay)(hT:T.Ok P)(x:Value)(es:List MapEntry):(Instr.findKey kt x es).run P w=(Instr.findAsking kt x es).run P w:=by
 obtain ⟨fs,hs⟩:=h.st
 have hu:=aU.aR hT hs
 cases es with
 | nil=>simp [Instr.findKey,run_underlying hu,Instr.findNow,Instr.findAsking]
 | cons e es=>simp [Instr.findKey,run_underlying hu,Instr.findNow,Instr.sameNow]
end
def mpA (T:aU)(t:TypeId):Option (TypeId×TypeId):=match T.ko t with
 | some (.map kt et)=>some (kt,et)
 | _=>none
theorem Nk {P:Program}{T:aU}(hT:T.Ok P){t kt et:TypeId}(h:mpA T t=some (kt,et)):P.underlying t=some (.map kt et):=by
 unfold mpA at h
 split at h
 ·rename_i h1;cases h;exact aU.aR hT h1
 ·cases h
section
variable {X:Cx}{f:Fx}{k:Kt}{e:Env}{Ls Rs:List Chunk}{ops:List Oper}{Ms:List Chunk}{r':aA}{κ d:Nat}{v:Value}{t kt et:TypeId}{x y z:Operand}{r:Nat}{C:Chunk}
variable {α:Type}[DecidableEq α]{lay:α->List Value}{L:List α}{u:α}
theorem WD.lkS (hκ:calm κ=true)(hx:ev e x=some (.map (some r)))(hy:ev e y=some (.agg (lay u).toArray))(hT:X.T.Ok X.P)(ht:mpA X.T t=some (kt,et))(hz:zv X.T et=some (.bool false))(hK:qW X.T X.P kt lay)(hC:BN lay r L C)(hm:C∈zc κ Ms Ls)
  (g:WO X f ops k Ms r' ((d,.bool (decide (u∈L))) :: e) Ls):WD X f ops k Ms κ (some d) (.lookup t x y false) r' e Ls:=by
 have h1:=Nk hT ht
 obtain ⟨es,clock,he,rfl⟩:=hC
 refine .rd hκ (fun a _ w ho E S => ?_) g
 have hb:=S.one hm
 unfold zv at hz
 split at hz
 ·rename_i i hi
  have hi:=hT.ty _ _ hi
  rcases hK.find (w:=w) hT u L es 0 he with ⟨q1,q2⟩ | ⟨A,n,B,rfl,q2,q3,q4,q5⟩
  ·rw [decide_eq_false q2]
   simp [ab,execOp,ho,E.eval hx,E.eval hy,Instr.lookup,run_underlying h1,Go.MapKept.run_getObj_map hb,hK.check hT,hK.findKey hT,q1,zeroValue,typeInfo,hi,hz]
  ·rw [decide_eq_true q4]
   simp [ab,execOp,ho,E.eval hx,E.eval hy,Instr.lookup,run_underlying h1,Go.MapKept.run_getObj_map hb,hK.check hT,hK.findKey hT] at q5 ⊢
   simp [q5]
 ·cases hz
theorem WD.aaU (hκ:dD κ=true)(hx:ev e x=some (.map (some r)))(hy:ev e y=some (.agg (lay u).toArray))(hz:ev e z=some (.bool true))(hT:X.T.Ok X.P)(ht:mpA X.T t=some (kt,et))(hK:qW X.T X.P kt lay)(hC:BN lay r L C)(hp:Ls.Perm (C :: Rs))
  (hM:cJ κ Ms Rs) (g:∀C',BN lay r (if u∈L then L else L++[u]) C'->WO X f ops k Ms r' e (C' :: Rs)):WD X f ops k Ms κ none (.mapUpdate t x y z) r' e Ls:=by
 have h1:=Nk hT ht
 obtain ⟨es,clock,he,rfl⟩:=hC
 refine .ac hκ fun a _ w ho hd _ E S => ?_
 have hb:=S.get hp
 rcases hK.find (w:=w) hT u L es 0 he with ⟨q1,q2⟩ | ⟨A,n,B,rfl,q2,q3,q4,q5⟩
 ·rw [if_neg q2] at g
  refine iN.wp (w':={ w with heap:=w.heap.setIfInBounds r (.map (es.toArray.push { key:=.agg (lay u).toArray,val:=.bool true,born:=clock }) (clock+1)) }) ?_ ?_
  ·unfold iN
   simp [execOp,ho,E.eval hx,E.eval hy,E.eval hz,Instr.mapUpdate,run_underlying h1,Go.MapKept.run_getObj_map hb,hK.check hT,hK.findKey hT,q1,Go.MapKept.run_setObj_map _ hb]
  ·rw [hd]
   refine KO.mk rfl (fun h C hC=>List.mem_cons_of_mem _ (hM h C hC)) (g _ ⟨es++[{ key:=.agg (lay u).toArray,val:=.bool true,born:=clock }],clock+1,by simp [he],rfl⟩) (E.Bl _) ?_
   have:=bK (ob':=.map (es.toArray.push { key:=.agg (lay u).toArray,val:=.bool true,born:=clock }) (clock+1)) S hp
   simpa using this
 ·rw [if_pos q4] at g
  obtain ⟨bk,bv,bb⟩:=n
  simp only at q2 q3
  subst q2 q3
  have cu:((Instr.keyThatStays (.agg (lay u).toArray) (.agg (lay u).toArray))).run X.P w = .ok (.agg (lay u).toArray) w:=by simp [Instr.keyThatStays,hK.sb]
  have Rv:(A++({ key:=.agg (lay u).toArray,val:=.bool true,born:=bb }:MapEntry) :: B).toArray.modify A.length (fun e=>{ e with key:=.agg (lay u).toArray,val:=.bool true })=(A++({ key:=.agg (lay u).toArray,val:=.bool true,born:=bb }:MapEntry) :: B).toArray:=by
   apply Array.ext
   ·simp
   ·intro i h1 h2
    rw [Array.getElem_modify]
    split
    ·rename_i c;subst c;simp
    ·rfl
  have hj:((A++({ key:=.agg (lay u).toArray,val:=.bool true,born:=bb }:MapEntry) :: B).toArray)[A.length]? = some { key:=.agg (lay u).toArray,val:=.bool true,born:=bb }:=by simp
  refine iN.wp (w':={ w with heap:=w.heap.setIfInBounds r (.map (A++({ key:=.agg (lay u).toArray,val:=.bool true,born:=bb }:MapEntry) :: B).toArray clock) }) ?_ ?_
  ·unfold iN
   rw [Nat.zero_add] at q5
   have e1:=hK.findKey (w:=w) hT (.agg (lay u).toArray) (A++({ key:=.agg (lay u).toArray,val:=.bool true,born:=bb }:MapEntry) :: B)
   rw [q5] at e1
   generalize hG:(A++({ key:=.agg (lay u).toArray,val:=.bool true,born:=bb }:MapEntry) :: B)=G at *
   simp only [execOp,ho,E.eval hx,E.eval hy,E.eval hz,Instr.mapUpdate,run_underlying h1,Go.MapKept.run_getObj_map hb,hK.check hT,e1,Sem.run_bind,Result.andThen_ok,hj,Option.map_some,Option.getD_some,cu,Rv,Go.MapKept.run_setObj_map _ hb,Sem.run_pure]
  ·rw [hd]
   exact KO.mk rfl (fun h C hC=>List.mem_cons_of_mem _ (hM h C hC)) (g _ ⟨_,clock,he,rfl⟩) (E.Bl _) (bK S hp)
end
def MpE (r it:Nat)(k:IntKind)(L:List (Int×Value))(C D:Chunk)(q:Int)(v:Value):Prop:=∃(Ms:List Me) (clock since:Nat) (seen:Array Nat) (m:Me),Ms.map kv=L/\ug Ms clock/\C=[(r,.map (jb k Ms) clock)]/\D=[(it,.mapIter (some r) since (seen.push m.born) clock)]/\m∈Ms/\m.key=q/\m.val=v
section
variable {X:Cx}{f:Fx}{k:Kt}{e:Env}{Ls Rs:List Chunk}{ops:List Oper}{Ms:List Chunk}{r':aA}{κ d:Nat}{v:Value}{t et:TypeId}{x y z:Operand}{r:Nat}{kk:IntKind}{L:List (Int×Value)}{q:Int}{C D:Chunk}
theorem WD.aaV {it:Nat}{rest:List (Int×Value)}(hκ:dD κ=true)(hx:ev e x=some (ptr it))(hC:xZ r it kk L rest C D)(hp:Ls.Perm (D :: C :: Rs))
  (hM:cJ κ Ms (C :: Rs))
  (g0:rest=[]->WO X f ops k Ms r' ((d,.tuple #[.bool false]) :: e) (D :: C :: Rs))
  (g1:∀A q v B D',rest=A++(q,v) :: B->jP L q=some v->xZ r it kk L (A++B) C D'->MpE r it kk L C D' q v->WO X f ops k Ms r' ((d,.tuple #[.bool true,.int kk q,v]) :: e) (D' :: C :: Rs)):WD X f ops k Ms κ (some d) (.next x false) r' e Ls:=by
 obtain ⟨es,clock,since,seen,last,rfl,nD,rfl,rfl,hb,hs,LK,rfl⟩:=hC
 refine .ac hκ fun _ _ _ ho hd hn E S=>BB E S ho hd (hn d rfl) hx hp hb hs fun _ _ u E' h => ?_
 have hK:∀D',cJ κ Ms (D' :: [(r,.map (jb kk es) clock)] :: Rs):=fun D' h C hC=>List.mem_cons_of_mem _ (hM h C hC)
 rcases h with ⟨rfl,h2,S'⟩ | ⟨m,hm,hns,rfl,S'⟩
 ·refine KO.mk rfl (hK _) (g0 ?_) E' S'
  rw [List.map_eq_nil_iff,List.filter_eq_nil_iff]
  intro m hm;simpa using h2 m hm
 ·obtain ⟨A,B,Yb⟩:=List.append_of_mem (List.mem_filter.2 ⟨hm,by simpa using hns⟩:m∈es.filter fun z => !seen.contains z.born)
  have A0:((es.filter fun z => !seen.contains z.born).map (·.born)).Nodup:=(List.filter_sublist.map _).nodup nD.nb
  have nT:((es.filter fun z => !(seen.push m.born).contains z.born)).map kv=A.map kv++B.map kv:=by
   have e1:(es.filter fun z => !(seen.push m.born).contains z.born)=(es.filter fun z => !seen.contains z.born).filter fun z=>z.born != m.born:=by
    rw [List.filter_filter]
    apply List.filter_congr
    intro z _
    simp only [Array.contains_push,Bool.not_or,bne]
    rw [Bool.and_comm]
   rw [Yb] at A0
   rw [List.map_append,List.map_cons,List.nodup_append] at A0
   obtain ⟨n1,n2,n3⟩:=A0
   rw [List.nodup_cons] at n2
   rw [e1,Yb,List.filter_append,List.filter_cons_of_neg (by simp),<-List.map_append]
   congr 2
   ·rw [List.filter_eq_self];intro z hz;simpa using fun q=>n3 _ (List.mem_map_of_mem hz) _ (List.mem_cons_self ..) q
   ·rw [List.filter_eq_self];intro z hz;simpa using fun q=>n2.1 (by rw [<-q];exact List.mem_map_of_mem hz)
  have gM:jP (es.map kv) m.key=some m.val:=by
   obtain ⟨A',B',rfl⟩:=List.append_of_mem hm
   have xh:=nD.nk
   rw [List.map_append,List.map_cons,List.nodup_append] at xh
   have dX:(A'.map kv).find? (fun e=>e.1==m.key)=none:=by
    rw [List.find?_eq_none]
    intro e he
    obtain ⟨z,hz,rfl⟩:=List.mem_map.1 he
    simpa [kv] using fun q=>xh.2.2 _ (List.mem_map_of_mem hz) _ (List.mem_cons_self ..) q
   simp [jP,List.find?_append,dX,kv]
  refine KO.mk rfl (hK _) (g1 (A.map kv) m.key m.val (B.map kv) _ (by rw [Yb];simp [kv]) gM ⟨es,clock,since,seen.push m.born,clock,rfl,nD,rfl,rfl,hb,LK,LK,nT.symm⟩ ⟨es,clock,since,seen,m,rfl,nD,rfl,rfl,hm,rfl,rfl⟩) E' S'
theorem WD.Yc {it:Nat}(hκ:dD κ=true)(hx:ev e x=some (ptr it))(hC:MpE r it kk L C D q v)(hp:Ls.Perm (D :: C :: Rs))(hM:cJ κ Ms Ls)
  (g:WO X f ops k Ms r' ((d,.tuple #[.int kk q,v]) :: e) Ls):WD X f ops k Ms κ (some d) (.entry x) r' e Ls:=by
 obtain ⟨es,clock,since,seen,m,rfl,nD,rfl,rfl,hm,rfl,rfl⟩:=hC
 refine .ac hκ fun _ _ w ho hd hn E S => ?_
 have hi:=S.get hp
 have hb:=S.get (hp.trans (List.Perm.swap _ _ _))
 refine (BC E ho hx hi hb hm nD.nb).wp ?_
 rw [hd]
 exact KO.mk rfl hM g (E.put (hn d rfl) _) S
end
end Go.Sl
namespace Go.Proofs.YtcfioaeamfappaaGreatDoor
open Go.Sl
theorem Nl {G H1 H2:Prop}(k1:H1)(k2:H2)(h:gE H1->gE H2->G:=by
 intro k1 k2;refine go ?_;refine WO.dec rfl ?_
 apply WD.aaV;exact rfl;exact rfl;assumption;exact HP;exact keeps;exact k1.out;exact k2.out):G:=h ⟨k1⟩ ⟨k2⟩
theorem Nn {G H:Prop}(k:H)(h:gE H->G:=by
 intro kk;refine go ?_;refine WO.dec rfl ?_
 apply WD.Yc;exact rfl;exact rfl;assumption;exact HP;exact keeps;exact kk.out):G:=h ⟨k⟩
end Go.Proofs.YtcfioaeamfappaaGreatDoor
namespace Go.Sl
def Sz {σ:Type}(P:Program)(g:FuncId)(cap:List Value)(Cs B0:List Chunk)(I:Sy σ):Prop :=
 ∀(w0:World) (As:List Chunk) (J:σ->List Chunk->Prop) (l:Nat) (rc:Loop) (w:World) (Ls:List Chunk),
  St w0 As w ([(l,.loop rc)] :: (Cs++Ls))->(∀C∈B0,C∈Ls)->J I.s0 Ls ->
  (∀s vs s' Ls w X,I.nx s vs s'->J s Ls->St w0 As w ([(l,.loop rc)] :: (X :: (Cs++Ls)))->vs.length=rc.params.size /\
   RoundIn Fence.wide 0 P l rc.fn ((rc.params.zip vs.toArray).foldl (fun tmps x=>tmps.setIfInBounds x.1 x.2) rc.tmps) rc.assign rc.body w fun en w' =>
    en = .returned (.bool true)/\∃bg,St w0 As w' ([(l,.loop rc)] :: (X :: (Cs++bg)))/\J s' bg) ->
  CallsIn Fence.wide 0 P g (.func (.yield l) #[] #[] :: cap).toArray w fun en w'=>∃v,en = .returned v /\
   ∃s bg,I.fi s/\St w0 As w' ([(l,.loop rc)] :: (Cs++bg))/\J s bg
structure JP3 {σ:Type}(J:σ->List Chunk->Prop):Prop
section
variable {P:Program}{T:aU}{w0:World}{As:List Chunk}{f:Fx}{k:Kt}{e:Env}{Ls Rs:List Chunk}
theorem WS.Yd {σ:Type}{VW:Operand}{ps:List Nat}{assign body:Code}{g:FuncId}{fn:Func}{cap:List Value}{Cs B0:List Chunk}{I:Sy σ}(hI:Sz P g cap Cs B0 I){J:σ->List Chunk->Prop}(_:JP3 J)(hk:k.plain=true)
  (hg:ev e VW=some (.func (.func g) #[] cap.toArray)) (hT:T.Ok P) (hf:zh T g=some fn) (hs:gH Ls Cs Rs) (hB:∀C∈B0,C∈Rs) (h0:J I.s0 Rs)
  (hr:∀rc l r X s vs s' bg,I.nx s vs s'->J s bg->∃V,Rx f.n ps vs V/\WS ⟨P,T,w0,As,some l,[]⟩ f assign (Ka P w0 As (X :: Cs) l r rc (J s') (fun _=>False) body) (V++e) ([(l,.loop rc)] :: (X :: (Cs++([(r,.deferred (some []))] :: bg)))))
  (hy:∀r s bg,I.fi s->J s bg->WE ⟨P,T,w0,As,none,[⟨.collected r,#[]⟩]⟩ f .normal k e ([(r,.deferred (some []))] :: (Cs++bg))):WS ⟨P,T,w0,As,none,[]⟩ f (.rangeFunc VW ps.toArray assign body) k e Ls:=⟨fun a w E S=>by
 obtain ⟨f1,f2,f3⟩:=pv hT hf
 refine (wpIn_wide (n:=0)).2 (xW E (S.r8 hs) hg f1 f2 f3 fun rc l r w1 hL S1 => ?_)
 have pe:∀ {x y:Chunk} {A B:List Chunk},(x :: y :: (A++B)).Perm (x :: (A++(y :: B))):=fun {x y A B}=>(List.perm_middle.symm).cons x
 have pi:∀ {x y:Chunk} {A B:List Chunk},(x :: (A++(y :: B))).Perm (x :: y :: (A++B)):=fun {x y A B}=>(List.perm_middle).cons x
 have S1':St w0 As w1 ([(l,.loop rc)] :: (Cs++([(r,.deferred (some []))] :: Rs))):=S1.perm pe
 refine CallsIn.mono (hI w0 As (fun s L=>∃L0,L=[(r,.deferred (some []))] :: L0/\J s L0) l rc w1 _ S1' (fun C hC=>List.mem_cons_of_mem _ (hB C hC)) ⟨Rs,rfl,h0⟩ ?_) ?_
 ·rintro s vs s' _ w2 X qD ⟨L0,rfl,hJ⟩ S2
  obtain ⟨V,hp,hW⟩:=hr rc l r X s vs s' L0 qD hJ
  refine ⟨by rw [hL.pr];simpa using hp.len.symm, ?_⟩
  refine RoundIn.mono (Nb (R:=RE P w0 As (X :: Cs) l r rc (J s') (fun _=>False)) hL S2 E hp fun a2 E2=>hW.ap a2 w2 E2 S2) ?_
  rintro en w3 (⟨rfl,L',S3,X8⟩ | ⟨rfl,L',S3,X8⟩)
  ·exact ⟨rfl,_,S3,L',rfl,X8⟩
  ·exact X8.elim
 ·rintro en w3 ⟨v,rfl,s,_,AZ,S3,L0,rfl,hJ⟩
  refine ⟨v,rfl,.inl ⟨_,S3.perm pi,fun w4 S4 a' E' => ?_⟩⟩
  have:=(hy r s L0 AZ hJ).ap a' w4 E' S4
  rwa [Kt.Na hk] at this⟩
end
end Go.Sl
namespace Go.Proofs.YtcfioaeamfappaaGreatDoor
open Go.Sl
theorem gf3 {G H1 H2 H3:Prop}{σ:Type}{g:FuncId}{cap:List Value}{Cs B0:List Chunk}{I:Sy σ}(hI:Sz Tryz.prog g cap Cs B0 I)(J:σ->List Chunk->Prop)(k1:H1)(k2:H2)(k3:H3)(h:Sz Tryz.prog g cap Cs B0 I->JP3 J->gE H1->gE H2->gE H3->G:=by
 intro hi jp k1 k2 k3;refine go ?_
 apply WS.Yd hi jp;exact rfl;exact rfl;exact aB;exact rfl;exact aa;(repeat (first | exact Nd | (apply Nf;exact mem)));exact k1.out;exact k2.out;exact k3.out):G:=h hI ⟨⟩ ⟨k1⟩ ⟨k2⟩ ⟨k3⟩
end Go.Proofs.YtcfioaeamfappaaGreatDoor
namespace Go.Proofs
open Go.Shelf
def Tryz.BO:Go.Shelf.Ren:=⟨fun | 125=>132 | 128=>193 | 129=>194 | n=>n,fun | 46=>220 | 3=>3 | 51=>285 | 53=>30 | 4=>4 | 5=>5 | 9=>9 | n=>n,fun | n=>n⟩
theorem Tryz.SA:Go.Proofs.Lays.n125 Tryz.prog Tryz.BO:={
 mixed:=by kernel_rfl
 f125:=Tryz.func132.trans (congrArg some (by kernel_rfl))
 f128:=Tryz.func193.trans (congrArg some (by kernel_rfl))
 f129:=Tryz.func194.trans (congrArg some (by kernel_rfl))
 t3:=Tryz.underlying3
 a3:=Tryz.isAgg3
 z3:=Tryz.sizeOf3
 v3:=Tryz.zeroValue3
 t4:=Tryz.underlying4
 a4:=Tryz.isAgg4
 z4:=Tryz.sizeOf4
 v4:=Tryz.zeroValue4
 t5:=Tryz.underlying5
 a5:=Tryz.isAgg5
 z5:=Tryz.sizeOf5
 v5:=Tryz.zeroValue5
 t9:=Tryz.underlying9
 a9:=Tryz.isAgg9
 z9:=Tryz.sizeOf9
 v9:=Tryz.zeroValue9
 t46:=Tryz.underlying220
 a46:=Tryz.isAgg220
 z46:=Tryz.sizeOf220
 v46:=Tryz.zeroValue220
 t51:=Tryz.underlying285
 a51:=Tryz.isAgg285
 z51:=Tryz.sizeOf285
 v51:=Tryz.zeroValue285
 t53:=Tryz.underlying30
 a53:=Tryz.isAgg30
 z53:=Tryz.sizeOf30
 v53:=Tryz.zeroValue30 }
theorem Tryz.bits_Len (x:Int)(w:World)(h0:0<=x)(h1:x<=18446744073709551615) :
  Calls Tryz.prog 132 #[.int .u64 x] w fun e w'=>e = .returned (.int .i64 (Lib.bitLen x.toNat))/\w'=w:=Any.bits_Len Tryz.SA x w h0 h1
def Tryz.BP:Go.Shelf.Ren:=⟨fun | 189=>77 | 125=>132 | 257=>131 | 128=>193 | 129=>194 | 294=>184 | 295=>185 | 296=>186 | 297=>187 | 298=>188 | 299=>189 | 216=>190 | 300=>191 | 301=>192 | 328=>237 | 329=>238 | 330=>239 | 331=>240 | 332=>241 | 215=>242 | 343=>273 | n=>n,fun | 28=>69 | 3=>3 | 46=>220 | 0=>0 | 51=>285 | 53=>30 | 4=>4 | 183=>278 | 182=>277 | 131=>282 | 5=>5 | 9=>9 | 218=>326 | 222=>329 | 228=>355 | 229=>356 | n=>n,fun | n=>n⟩
theorem Tryz.SB:Go.Proofs.Lays.n189 Tryz.prog Tryz.BP:={
 mixed:=by kernel_rfl
 f125:=Tryz.func132.trans (congrArg some (by kernel_rfl))
 f128:=Tryz.func193.trans (congrArg some (by kernel_rfl))
 f129:=Tryz.func194.trans (congrArg some (by kernel_rfl))
 f189:=Tryz.func77.trans (congrArg some (by kernel_rfl))
 f215:=Tryz.func242.trans (congrArg some (by kernel_rfl))
 f216:=Tryz.func190.trans (congrArg some (by kernel_rfl))
 f257:=Tryz.func131.trans (congrArg some (by kernel_rfl))
 f294:=Tryz.func184.trans (congrArg some (by kernel_rfl))
 f295:=Tryz.func185.trans (congrArg some (by kernel_rfl))
 f296:=Tryz.func186.trans (congrArg some (by kernel_rfl))
 f297:=Tryz.func187.trans (congrArg some (by kernel_rfl))
 f298:=Tryz.func188.trans (congrArg some (by kernel_rfl))
 f299:=Tryz.func189.trans (congrArg some (by kernel_rfl))
 f300:=Tryz.func191.trans (congrArg some (by kernel_rfl))
 f301:=Tryz.func192.trans (congrArg some (by kernel_rfl))
 f328:=Tryz.func237.trans (congrArg some (by kernel_rfl))
 f329:=Tryz.func238.trans (congrArg some (by kernel_rfl))
 f330:=Tryz.func239.trans (congrArg some (by kernel_rfl))
 f331:=Tryz.func240.trans (congrArg some (by kernel_rfl))
 f332:=Tryz.func241.trans (congrArg some (by kernel_rfl))
 f343:=Tryz.func273.trans (congrArg some (by kernel_rfl))
 t0:=Tryz.underlying0
 a0:=Tryz.isAgg0
 z0:=Tryz.sizeOf0
 v0:=Tryz.zeroValue0
 t3:=Tryz.underlying3
 a3:=Tryz.isAgg3
 z3:=Tryz.sizeOf3
 v3:=Tryz.zeroValue3
 t4:=Tryz.underlying4
 a4:=Tryz.isAgg4
 z4:=Tryz.sizeOf4
 v4:=Tryz.zeroValue4
 t5:=Tryz.underlying5
 a5:=Tryz.isAgg5
 z5:=Tryz.sizeOf5
 v5:=Tryz.zeroValue5
 t9:=Tryz.underlying9
 a9:=Tryz.isAgg9
 z9:=Tryz.sizeOf9
 v9:=Tryz.zeroValue9
 t28:=Tryz.underlying69
 a28:=Tryz.isAgg69
 z28:=Tryz.sizeOf69
 v28:=Tryz.zeroValue69
 t46:=Tryz.underlying220
 a46:=Tryz.isAgg220
 z46:=Tryz.sizeOf220
 v46:=Tryz.zeroValue220
 t51:=Tryz.underlying285
 a51:=Tryz.isAgg285
 z51:=Tryz.sizeOf285
 v51:=Tryz.zeroValue285
 t53:=Tryz.underlying30
 a53:=Tryz.isAgg30
 z53:=Tryz.sizeOf30
 v53:=Tryz.zeroValue30
 t131:=Tryz.underlying282
 a131:=Tryz.isAgg282
 z131:=Tryz.sizeOf282
 v131:=Tryz.zeroValue282
 t182:=Tryz.underlying277
 a182:=Tryz.isAgg277
 z182:=Tryz.sizeOf277
 v182:=Tryz.zeroValue277
 t183:=Tryz.underlying278
 a183:=Tryz.isAgg278
 z183:=Tryz.sizeOf278
 v183:=Tryz.zeroValue278
 t218:=Tryz.underlying326
 a218:=Tryz.isAgg326
 z218:=Tryz.sizeOf326
 v218:=Tryz.zeroValue326
 t222:=Tryz.underlying329
 a222:=Tryz.isAgg329
 z222:=Tryz.sizeOf329
 v222:=Tryz.zeroValue329
 t228:=Tryz.underlying355
 a228:=Tryz.isAgg355
 z228:=Tryz.sizeOf355
 v228:=Tryz.zeroValue355
 t229:=Tryz.underlying356
 a229:=Tryz.isAgg356
 z229:=Tryz.sizeOf356
 v229:=Tryz.zeroValue356 }
open Go.Sort Go.RowKit in
theorem Tryz.slices_Sort_int (fN off cap:Nat)(zs:List Int)(w:World)(hH:Holds (Value.int .i64) w fN off zs.toArray)(ef:fN<w.heap.size)(bx:zs.length<4611686018427387904) :
  Calls Tryz.prog 77 #[.slice (some ⟨fN,off,none⟩) zs.length cap] w fun e w' =>
   e = .returned (.tuple #[])/\∃n os,w'=grow (putRow (Value.int .i64) (Sort.ahead w n) fN off (zs.mergeSort fun x y=>decide (x<=y)).toArray) os:=Any.slices_Sort_int Tryz.SB fN off cap zs w hH ef bx
end Go.Proofs
namespace Go.Sl
open Go.Sort
def ints (l:List Int):List Value:=l.map (Value.int .i64)
theorem jh (l:List Int):(ints l).length=l.length:=by simp [ints]
theorem JF (l:List Int):∀u∈ints l,u.oneCell'=true:=fun u hu=>by obtain ⟨x, -,rfl⟩:=List.mem_map.1 hu;rfl
def zn (l:List Int):List Int:=l.mergeSort fun x y=>decide (x<=y)
theorem qX (l:List Int):(zn l).Perm l:=List.mergeSort_perm l _
theorem px (l:List Int):(zn l).length=l.length:=(qX l).length_eq
theorem sf (l:List Int):(zn l).Pairwise (· <= ·):=by
 have:=List.pairwise_mergeSort (le:=fun x y:Int=>decide (x<=y)) (fun a b c h1 h2=>by simp only [decide_eq_true_eq] at *;omega) (fun a b=>by simp only [Bool.or_eq_true,decide_eq_true_eq];omega) l
 exact this.imp fun h=>by simpa using h
theorem SC {w:World}(os:Array Obj)(A:Chunk):Tr w (grow w os) A A :=
 ⟨rfl,rfl,rfl,by simp [grow],fun R h=>qK h fun x hx=>by
  have:=h.lt hx
  simp only [grow]
  rw [Array.getElem?_append_left this]⟩
theorem xi {zs ts:List Int}{r:List Value}(h:ts.length=zs.length):putCells (Value.int .i64) 0 ts.toArray (ints zs++r).toArray=(ints ts++r).toArray:=by
 apply Array.ext
 ·simp [putCells,ints,h]
 ·intro i h1 h2
  simp only [putCells,Array.getElem_mapIdx]
  by_cases c:i<ts.length
  ·rw [if_pos (by simp;omega)]
   simp [ints,List.getElem_append_left,c]
  ·rw [if_neg (by simp;omega)]
   simp only [List.getElem_toArray]
   rw [List.getElem_append_right (by rw [jh];omega),List.getElem_append_right (by rw [jh];omega)]
   simp only [jh,h]
theorem SE {w:World}{g n:Nat}{os:Array Obj}{zs ts:List Int}{r:List Value}{T:TypeId}(h:ts.length=zs.length) :
  Tr w (grow (putRow (Value.int .i64) (Sort.ahead w n) g 0 ts.toArray) os) [(g,av (ints zs++r) T)] [(g,av (ints ts++r) T)]:=by
 refine Tr.trans ?_ (SC os _)
 have hm:∀k,(putRow (Value.int .i64) (Sort.ahead w n) g 0 ts.toArray).heap[k]? = if g=k then (w.heap[k]?).map (onCells (putCells (Value.int .i64) 0 ts.toArray)) else w.heap[k]?:=fun k=>by
  simp [putRow,mapBlock,Sort.ahead,Array.getElem?_modify]
 refine tJ (w:=w) (w':=putRow (Value.int .i64) (Sort.ahead w n) g 0 ts.toArray) rfl rfl rfl (by simp [putRow,mapBlock,Sort.ahead]) (fun hb => ?_) (fun k hk => ?_) []
 ·rw [hm,if_pos rfl,hb]
  simp only [Option.map_some,onCells,av]
  rw [xi h]
 ·rw [hm,if_neg (Ne.symm hk)]
end Go.Sl
namespace Go.Proofs.YtcfioaeamfappaaGreatDoor
open Go.Sl Go.Sort
set_option maxRecDepth 10000
set_option maxHeartbeats 4000000
theorem No (vO:Value)(O:Chunk):Ct 184 [vO,.int .i64 0,.int .i64 0] [O] fun _ Bs=>Bs=[O]:=by
 refine st Tryz.func184 fun w0 => ?_
 refine gl [0,1,2] (fun (_:Nat)=>[(6,.int .i64 1)]) (fun _=>[]) (fun _=>True) (fun _=>0) 0 True.intro ?_
 rintro n -
 refine gz ?_
 exact fin rfl aa
theorem Ye:Ct 132 [.int .u64 0] [] fun u Bs=>u = .int .i64 (Lib.bitLen 0)/\Bs=[]:=fun w _=>by
 refine (Calls.mono (Tryz.bits_Len 0 w (by omega) (by omega)) ?_)
 rintro en w' ⟨rfl,rfl⟩
 exact ⟨_,rfl,[],⟨rfl,rfl⟩,l5.refl _ _⟩
theorem HT (zs:List Int)(n:Nat)(hn:zs.length=n)(hb:n<=100000)(D:Chunk)(ad:Option Addr)(c:Nat)(hD:az D 3 1 (.slice ad n c) n (ints zs)) :
  Ct 77 [.slice ad n c] [D] fun _ Bs=>∃D',az D' 3 1 (.slice ad n c) n (ints (zn zs))/\Bs=[D']:=by
 rcases hD.2.2 with ⟨h2,h3,h4⟩ | ⟨g,c',r,hv,rfl,hnc,lS,tc⟩
 ·cases h2
  have hz:zs=[]:=List.eq_nil_of_length_eq_zero hn
  subst hz
  clear hn h3
  have eo:az D 3 1 (.slice none 0 0) 0 (ints (zn [])):=by
   have:zn []=[]:=List.eq_nil_of_length_eq_zero (by rw [px];rfl)
   rw [this];exact hD
  refine st Tryz.func77 fun w0 => ?_
  refine gc Ye ?_
  rintro _ _ ⟨rfl,rfl⟩
  refine ge ?_
  refine gl [0,1,2] (fun (_:Nat)=>[]) (fun _=>[]) (fun _=>True) (fun _=>0) 0 True.intro ?_
  rintro n -
  refine gc (No (.slice none 0 0) D) ?_
  rintro _ _ rfl
  refine gz ?_
  exact fin ⟨D,eo,rfl⟩ aa
 ·cases hv
  intro w H
  have hp:w.heap[g]? = some (av (ints zs++r) 3):=H.2 (g,_) (by simp)
  have hH:Holds (Value.int .i64) w g 0 zs.toArray:=by
   intro j hj
   have zb:j<zs.length:=by simpa using hj
   have hc:(ints zs++r)[j]? = some (.int .i64 zs[j]):=by
    rw [List.getElem?_append_left (by rw [jh];exact zb)];simp [ints,zb]
   refine ⟨?_, ?_⟩
   ·simp [World.cell?,hp,av,hc,zb]
   ·simp [World.frozen?,hp,av]
  have hg:g<w.heap.size:=(Array.getElem?_eq_some_iff.1 hp).1
  have h:=Tryz.slices_Sort_int g 0 c zs w hH hg (by omega)
  rw [hn] at h
  refine Calls.mono h ?_
  rintro en w' ⟨rfl,k,os,rfl⟩
  refine ⟨_,rfl,[[(g,av (ints (zn zs)++r) 3)]],⟨_, ?_,rfl⟩, ?_⟩
  ·exact tX (by rw [jh,px];omega) (JF _) hnc lS (by rw [jh,px,<-jh];exact tc)
  ·have:=SE (w:=w) (g:=g) (n:=k) (os:=os) (r:=r) (T:=3) (px zs)
   exact this
end Go.Proofs.YtcfioaeamfappaaGreatDoor
namespace Go.Sl
def VX (ks:List Int):Sy (List Int×List Int):=⟨([],ks),fun s vs s'=>∃A q B,s.2=A++q :: B/\vs=[.int .i64 q]/\s'=(s.1++[q],A++B),fun _ _=>False,fun s=>s.2=[]⟩
def iO (Ms:List Me)(seen:Array Nat):List Int:=(Ms.filter fun m => !seen.contains m.born).map (·.key)
theorem BQ (Ms:List Me):iO Ms #[]=Ms.map (·.key):=by
 unfold iO;rw [List.filter_eq_self.2];simp
theorem uD {Ms:List Me}{seen:Array Nat}{m:Me}(hn:(Ms.map (·.born)).Nodup)(hm:m∈Ms)(hs:m.born∉seen.toList):∃A B,iO Ms seen=A++m.key :: B/\iO Ms (seen.push m.born)=A++B:=by
 obtain ⟨A,B,Yb⟩:=List.append_of_mem (List.mem_filter.2 ⟨hm,by simpa using hs⟩:m∈Ms.filter fun z => !seen.contains z.born)
 have A0:((Ms.filter fun z => !seen.contains z.born).map (·.born)).Nodup:=(List.filter_sublist.map _).nodup hn
 have e1:(Ms.filter fun z => !(seen.push m.born).contains z.born)=(Ms.filter fun z => !seen.contains z.born).filter fun z=>z.born != m.born:=by
  rw [List.filter_filter]
  apply List.filter_congr
  intro z _
  simp only [Array.contains_push,Bool.not_or,bne]
  rw [Bool.and_comm]
 rw [Yb,List.map_append,List.map_cons,List.nodup_append] at A0
 obtain ⟨n1,n2,n3⟩:=A0
 rw [List.nodup_cons] at n2
 refine ⟨A.map (·.key),B.map (·.key),by unfold iO;rw [Yb];simp, ?_⟩
 unfold iO
 rw [e1,Yb,List.filter_append,List.filter_cons_of_neg (by simp),<-List.map_append]
 congr 2
 ·rw [List.filter_eq_self];intro z hz;simpa using fun q=>n3 _ (List.mem_map_of_mem hz) _ (List.mem_cons_self ..) q
 ·rw [List.filter_eq_self];intro z hz;simpa using fun q=>n2.1 (by rw [<-q];exact List.mem_map_of_mem hz)
theorem JG {Ms:List Me}{seen:Array Nat}(h:∀m∈Ms,m.born∈seen.toList):iO Ms seen=[]:=by
 unfold iO
 rw [List.filter_eq_nil_iff.2]; · rfl
 intro m hm;simpa using h m hm
section
variable {P:Program}{a:Act}{w:World}{o:Oper}{Q:Exit->Act->World->Prop}{ro:Option Nat}{ops:Array Oper}{rest:List Oper}
theorem Np {α:Type}{a b c:α}{L:List α}:(a :: b :: c :: L).Perm ((c :: b :: L)++[a]):=((List.Perm.swap c b L).cons a).trans (List.perm_append_comm (l₁:=[a]) (l₂:=c :: b :: L))
theorem Nq (hg:o.guard=none)(h:o.wpIn (RF ro) 0 P a w (wpListIn (RF ro) 0 P ops Q rest) Q):wpListIn (RF ro) 0 P ops Q (o :: rest) a w:=by
 unfold wpListIn
 rw [if_pos (by simp [Region.wanted,hg])]
 exact h
end
end Go.Sl
namespace Go.Proofs.YtcfioaeamfappaaGreatDoor
open Go.Sl
set_option maxRecDepth 10000
set_option maxHeartbeats 4000000
theorem SF (b1 r:Nat)(L:List (Int×Value))(CM:Chunk)(hM:Mp r .i64 L CM) :
  Sz Tryz.prog 260 [ptr b1] [CM] [[(b1,av [.map (some r)] 89)]] (VX (L.map (·.1))):=by
 intro w0 As J l rc w Ls S hB h0 hr
 obtain ⟨Ms,clock,rfl,nD,rfl⟩:=hM
 have wU:(Ms.map kv).map (·.1)=Ms.map (·.key):=by rw [List.map_map];rfl
 rw [wU] at h0 hr ⊢
 have hb:w.heap[b1]? = some (av [.map (some r)] 89):=S.jX.one (by exact List.mem_cons_of_mem _ (List.mem_cons_of_mem _ (hB _ (List.mem_cons_self ..))))
 have h0':J ([],iO Ms #[]) Ls:=by rw [BQ];exact h0
 clear hB h0
 refine HF 14 Tryz.func260 rfl rfl dZ ?_;intro a E
 refine dM ?_;intro K hK
 refine db rfl ?_
 refine aP E rfl rfl dZ (km E rfl rfl rfl (uc hb rfl)) ?_;clear E a;intro a E
 refine sZ rfl (BA E S rfl rfl dZ rfl rfl (by repeat (first | exact pk1 | apply ke)) ?_);clear E S a;intro a w b5 E S
 refine wpList_nil ?_;refine bm ?_
 refine eC hK ?_;clear hK;clear K
 refine mg ?_
 refine j0 (fun (m:Nat) (a:Act) (w':World)=>∃(done:List Int) (seen:Array Nat) (bg:List Chunk),m=(iO Ms seen).length/\J (done,iO Ms seen) bg/\St w0 As w' ([(l,.loop rc)] :: [(b5,.mapIter (some r) clock seen clock)] :: [(r,.map (jb .i64 Ms) clock)] :: bg)/\Fr a 14 [(0,.func (.yield l) #[] #[]),(5,ptr b5)]) ((iO Ms #[]).length) ?_ ?_
 ·exact ⟨[],#[],Ls,rfl,h0',S.perm (List.Perm.swap _ _ _),E.cZ (bN rfl (bN rfl l9))⟩
 clear E;clear a;(try clear S);rintro m a w ⟨done,seen,bg,rfl,hJ,S,E⟩
 refine dM ?_;intro K hK
 refine db rfl ?_
 refine sZ rfl (BB E S rfl rfl dZ rfl HP (fun m hm=>nD.born m hm) (Nat.le_refl _) ?_);clear E S a;intro a w v6 E hN6
 rcases hN6 with ⟨rfl,hall,S⟩ | ⟨m,hm,hns,rfl,S⟩
 ·skip
  refine aP E rfl rfl dZ (kZ E rfl rfl rfl) ?_;clear E a;intro a E
  refine wpList_nil ?_;refine bm ?_
  refine eC hK ?_;clear hK;clear K
  refine dM ?_;intro K hK
  refine kq E rfl (rfl) ?_
  refine y8 ?_
  refine mW ?_;clear hK;clear K
  refine mW ?_
  refine yM ?_
  refine aai E rfl ?_
  exact ⟨_,rfl,(done,iO Ms seen),bg,JG hall,S.only (Rs:=[[(b5,.mapIter (some r) clock seen clock)]]) Np,hJ⟩
 ·skip
  refine aP E rfl rfl dZ (kZ E rfl rfl rfl) ?_;clear E a;intro a E
  refine wpList_nil ?_;refine bm ?_
  refine eC hK ?_;clear hK;clear K
  refine dM ?_;intro K hK
  refine pj E rfl (rfl) ?_
  refine mY ?_
  refine eC hK ?_;clear hK;clear K
  refine mg ?_
  refine dM ?_;intro K hK
  refine db rfl ?_
  refine sZ rfl (R9 E (BC (m:=m) E rfl rfl (S.get (by repeat (first | exact pk1 | apply ke))) (S.get (by repeat (first | exact pk1 | apply ke))) hm nD.nb) rfl dZ ?_);clear E a;intro a E
  refine aP E rfl rfl dZ (kZ E rfl rfl rfl) ?_;clear E a;intro a E
  refine aP E rfl rfl dZ (ja E rfl rfl) ?_;clear E a;intro a E
  refine wpList_nil ?_;refine bm ?_
  refine eC hK ?_;clear hK;clear K
  refine dM ?_;intro K hK
  refine wpIn_region_lit ?_
  have qD:(VX (Ms.map (·.key))).nx (done,iO Ms seen) [.int .i64 m.key] (done++[m.key],iO Ms (seen.push m.born)):=(by obtain ⟨A,B,h1,h2⟩:=uD nD.nb hm hns;exact ⟨A,m.key,B,h1,rfl,by rw [h2]⟩);obtain ⟨bx,hR⟩:=hr _ _ _ bg w [(b5,.mapIter (some r) clock (seen.push m.born) clock)] qD hJ (S.perm (((List.Perm.swap _ _ _).cons _).trans (List.Perm.swap _ _ _)));have hl:w.heap[l]? = some (.loop rc):=S.get (by repeat (first | exact pk1 | apply ke));have kr:=RoundIn.mono (R':=fun en w'=>(en = .returned (.bool true)/\∃aaW,St w0 As w' ([(l,.loop rc)] :: ([(b5,.mapIter (some r) clock (seen.push m.born) clock)] :: ([[(r,.map (jb .i64 Ms) clock)]]++aaW)))/\J (done++[m.key],iO Ms (seen.push m.born)) aaW)\/(en = .returned (.bool false)/\False)) hR fun _ _ h=>.inl h
  refine bT E rfl rfl rfl dZ (dW E rfl rfl) ?_;clear E a;intro a E
  refine bT E rfl rfl rfl dZ (dW E rfl rfl) ?_;clear E a;intro a E
  refine Nq rfl (xX E rfl dZ rfl rfl rfl (hl) (bx) (RoundIn.mono (kr) ?_))
  rintro en w (⟨rfl,hJ⟩ | ⟨rfl,hJ⟩)
  ·refine ⟨_,rfl, ?_⟩;clear E a;intro a E
   refine bT E rfl rfl rfl dZ (tP E rfl rfl) ?_;clear E a;intro a E
   refine wpListIn_nil ?_
   refine eC hK ?_;clear hK;clear K
   refine kq E rfl rfl ?_
   refine mY ?_
   refine qL ?_
   refine ma ?_
   obtain ⟨Ls2,S2,hJ2⟩:=hJ
   obtain ⟨A,B,h1,h2⟩:=uD nD.nb hm hns
   exact ⟨_,by rw [h1,h2];simp,done++[m.key],seen.push m.born,Ls2,rfl,hJ2,S2,E.cZ (bN rfl (bN rfl l9))⟩
  ·refine ⟨_,rfl, ?_⟩;clear E a;intro a E
   refine bT E rfl rfl rfl dZ (tP E rfl rfl) ?_;clear E a;intro a E
   refine wpListIn_nil ?_
   refine eC hK ?_;clear hK;clear K
   refine pj E rfl rfl ?_
   refine FG ?_
   refine yL ?_
   refine tL ?_
   refine yL ?_
   refine aah E rfl ?_
   exact hJ.elim
theorem SG (r:Nat):Ct 216 [.map (some r)] [] fun u Bs=>∃b,u = .func (.func 260) #[] #[ptr b]/\Bs=[[(b,av [.map (some r)] 89)]]:=by
 refine st Tryz.func216 fun w0 => ?_
 refine ga ?_;intro b
 refine gz ?_
 exact fin ⟨b,rfl,rfl⟩ aa
theorem Nr (b r:Nat)(L:List (Int×Value))(CM:Chunk)(hM:Mp r .i64 L CM)(hl:L.length<=1000) :
  Ct 280 [.slice none 0 0,.func (.func 260) #[] #[ptr b]] [[(b,av [.map (some r)] 89)],CM]
   fun u Bs=>∃ks ad c D,ks.Perm (L.map (·.1))/\u = .slice ad L.length c/\az D 3 1 u L.length (ints ks)/\Bs=[D,[(b,av [.map (some r)] 89)],CM]:=by
 refine stM Tryz.func280 fun w0 => ?_
 refine ga ?_;intro b2
 refine gf3 (SF b r L CM hM) (fun s Ls=>∃ad c D,Ls=[[(b2,av [.slice ad s.1.length c] 69)]++D,[(b,av [.map (some r)] 89)]]/\az D 3 1 (.slice ad s.1.length c) s.1.length (ints s.1)/\(s.1++s.2).Perm (L.map (·.1))) ?_ ?_ ?_
 ·exact ⟨none,0,[],rfl,az.nil _ _,List.Perm.refl _⟩
 ·rintro rc l rr X s vs s' bg ⟨A,q,B,hs,rfl,rfl⟩ ⟨ad,c,D,rfl,hD,hp⟩
  have mj:=hp.length_eq
  rw [List.length_append,hs,List.length_append,List.length_cons,List.length_map] at mj
  have hp2:(s.1++[q]++(A++B)).Perm (L.map (·.1)):=by
   refine List.Perm.trans ?_ hp
   rw [hs,List.append_assoc]
   exact List.Perm.append_left _ (show (q :: (A++B)).Perm (A++q :: B) from List.perm_middle.symm)
  refine ⟨_,.one (Nat.le_of_ble_eq_true rfl), ?_⟩
  refine gas ?_
  refine gs ?_
  refine gm ?_;intro wV
  refine gp ?_;intro ad2 c2 D2 BR
  refine go ?_
  exact WE.next (L':=[[(b2,av [.slice ad2 (s.1++[q]).length c2] 69)]++D2,[(b,av [.map (some r)] 89)]]) (by rw [List.length_append];exact aa) ⟨ad2,c2,D2,rfl,by simpa [ints] using BR,hp2⟩
 ·rintro rr s bg AZ ⟨ad,c,D,rfl,hD,hp⟩
  have AZ:s.2=[]:=AZ
  rw [AZ,List.append_nil] at hp
  have mj:=hp.length_eq
  rw [List.length_map] at mj
  rw [mj] at hD
  rw [mj]
  refine go ?_
  refine gs ?_
  refine gs ?_
  refine gm1 ?_
  exact fin ⟨s.1,ad,c,D,hp,rfl,hD,rfl⟩ aa
theorem Ns (b r:Nat)(L:List (Int×Value))(CM:Chunk)(hM:Mp r .i64 L CM)(hl:L.length<=1000) :
  Ct 215 [.func (.func 260) #[] #[ptr b]] [[(b,av [.map (some r)] 89)],CM]
   fun u Bs=>∃ks ad c D,ks.Perm (L.map (·.1))/\ks.Pairwise (· <= ·)/\u = .slice ad L.length c/\az D 3 1 u L.length (ints ks)/\Bs=[D,[(b,av [.map (some r)] 89)],CM]:=by
 have hap:=Nr b r L CM hM hl
 refine st Tryz.func215 fun w0 => ?_
 refine ge ?_
 refine gc hap ?_
 rintro _ _ ⟨ks,ad,c,D,hp,rfl,hD,rfl⟩
 have lV:=hp.length_eq
 rw [List.length_map] at lV
 refine gc (HT ks _ lV oZ D ad c hD) ?_
 rintro _ _ ⟨D',eo,rfl⟩
 refine gz ?_
 exact fin ⟨zn ks,ad,c,D',(qX ks).trans hp,sf ks,rfl,eo,rfl⟩ aa
end Go.Proofs.YtcfioaeamfappaaGreatDoor
namespace Go.Sl
def numOf:List UInt8->Nat
 | []=>0
 | b :: r=>b.toNat+256*numOf r
theorem py (xs ys:List UInt8):numOf (xs++ys)=numOf xs+256 ^ xs.length*numOf ys:=by
 induction xs with
 | nil=>simp [numOf]
 | cons b r ih=>simp only [List.cons_append,numOf,ih,List.length_cons,Nat.pow_succ];rw [Nat.mul_add,Nat.add_assoc];congr 2;rw [<-Nat.mul_assoc,Nat.mul_comm 256]
theorem uE (xs:List UInt8):numOf xs<256 ^ xs.length:=by
 induction xs with
 | nil=>simp [numOf]
 | cons b r ih =>
  have:=b.toNat_lt
  simp only [numOf,List.length_cons,Nat.pow_succ]
  omega
theorem sL (bs:List UInt8)(k:Nat)(h:k<bs.length):numOf (bs.take (k+1))=numOf (bs.take k)+bs[k].toNat*2 ^ (8*k):=by
 rw [List.take_succ_eq_append_getElem h,py,List.length_take,Nat.min_eq_left oZ,Nat.pow_mul]
 simp [numOf,Nat.mul_comm]
def ae (n:Nat):Nat->List UInt8
 | 0=>[]
 | k+1=>ae n k++[UInt8.ofNat (n / 2 ^ (8*k))]
theorem af (n k:Nat):(ae n k).length=k:=by induction k <;> simp [ae, *]
theorem uF (n k:Nat):numOf (ae n k)=n % 256 ^ k:=by
 induction k with
 | zero=>simp [ae,numOf,Nat.mod_one]
 | succ k ih =>
  rw [ae,py,ih,af,Nat.pow_succ,Nat.mod_mul]
  simp [numOf,Nat.pow_mul]
theorem qY (xs:List Value)(k:Nat)(z v:Value)(j:Nat)(hj:xs.length=j)(hk:j<k) :
  (xs++List.replicate (k - j) z).set j v=(xs++[v])++List.replicate (k - (j+1)) z:=by
 subst hj
 rw [List.set_append_right _ _ (Nat.le_refl _),Nat.sub_self,show k - xs.length=(k - (xs.length+1))+1 by omega,List.replicate_succ,List.set_cons_zero,List.append_assoc]
 rfl
theorem ml (bs:List UInt8)(k:Nat){c:UInt8}(h:bs[k]? = some c):numOf (bs.take (k+1))=numOf (bs.take k)+c.toNat*2 ^ (8*k):=by
 obtain ⟨hk,rfl⟩:=List.getElem?_eq_some_iff.1 h
 exact sL bs k hk
end Go.Sl
namespace Go.Proofs.YtcfioaeamfappaaGreatDoor
open Go.Sl
set_option maxRecDepth 10000
theorem HU (bs:List UInt8)(m:Nat)(hb:m<=8)(hm:bs.length=m)(C:Chunk)(v:Value)(h:Rd C 1 v m (ak bs)):Ct 231 [v] [C] fun u Bs=>u = .int .u64 (numOf bs)/\Bs=[C]:=by
 subst hm
 obtain ⟨ad,c,rfl⟩:=h.slice
 refine st Tryz.func231 fun w0 => ?_
 refine gl [7,6] (fun i:Nat=>[(8,.int .i64 i),(3,.int .u64 (numOf (bs.take i)))]) (fun _=>[C]) (· <= bs.length) (bs.length - ·) 0 (Nat.zero_le _) ?_
 intro i hi
 refine gi ?_ ?_ <;> intro bh
 ·obtain ⟨x,hx⟩:=eB (show i<bs.length by omega)
  obtain ⟨g,off,rfl⟩:=h.addr oZ
  have h1:=uE (bs.take (i+1))
  rw [ml bs i hx,List.length_take,Nat.min_eq_left oZ,show 256 ^ (i+1)=2 ^ (8*(i+1)) by rw [show 256=2 ^ 8 from rfl,<-Nat.pow_mul]] at h1
  have h2:2 ^ (8*(i+1))<=2 ^ 64:=Nat.pow_le_pow_right oZ oZ
  have h3:numOf (bs.take i)+x.toNat*2 ^ (8*i)<18446744073709551616:=by omega
  have h4:x.toNat*2 ^ (8*i)<18446744073709551616:=by omega
  have h5:numOf (bs.take i)<2 ^ (8*i):=by
   have:=uE (bs.take i)
   rwa [List.length_take,Nat.min_eq_left oZ,show 256=2 ^ 8 from rfl,<-Nat.pow_mul] at this
  refine gn ?_
  refine ⟨i+1,by omega,by omega, ?_,_,aa⟩
  rw [ml bs i hx]
  exact aq
 ·refine gz ?_
  exact fin ⟨by rw [List.take_of_length_le oZ],rfl⟩ aa
theorem Nt (n k:Nat)(hk:k<=8):Ct 252 [.int .u64 n,.int .i64 k] [] fun u Bs=>∃g,u = .slice (some ⟨g,0,none⟩) k k/\Bs=[[(g,av (ak (ae n k)) 5)]]:=by
 refine st Tryz.func252 fun w0 => ?_
 refine gm ?_;intro g
 refine gl [0,5,10] (fun i:Nat=>[(11,.int .i64 i)]) (fun i=>[[(g,av (ak (ae n i)++List.replicate (k - i) (.int .u8 0)) 5)]]) (· <= k) (k - ·) 0 (Nat.zero_le _) ?_
 intro i hi
 refine gi ?_ ?_ <;> intro bh
 ·have hl:=af n i
  have hs:=aco (x:=n) (j:=8*i)
  have h8:=w8 (n / 2 ^ (8*i))
  have hz:=qY (ak (ae n i)) k (.int .u8 0) (.int .u8 (UInt8.ofNat (n / 2 ^ (8*i))).toNat) i (by rw [ai,af]) oZ
  refine gn ?_
  rw [hz,show ak (ae n i)++[.int .u8 (UInt8.ofNat (n / 2 ^ (8*i))).toNat]=ak (ae n (i+1)) by rw [ae,aE];rfl]
  exact ⟨i+1,by omega,by omega,aq,_,aa⟩
 ·obtain rfl:i=k:=by omega
  refine go ?_
  simp only [Nat.sub_self,List.replicate_zero,List.append_nil]
  exact fin ⟨g,rfl,rfl⟩ aa
def wW (p room:Nat)(bs:List UInt8)(A:Chunk):Prop:=∃v C,az C 5 1 v bs.length (ak bs)/\room<=10000/\A=[(p,av [.int .i64 room,v,.int .i64 0] 336)]++C
theorem Nu (p room:Nat)(bs b:List UInt8)(A D:Chunk)(v:Value)(hA:wW p room bs A)(hD:Rd D 1 v b.length (ak b))(hf:bs.length+b.length<=room):Ct 249 [ptr p,v] [A,D] fun u Bs=>∃A',u = .int .i64 0/\wW p room (bs++b) A'/\Bs=[A',D]:=by
 obtain ⟨v0,C,hC,hr,rfl⟩:=hA
 obtain ⟨ad,c,rfl⟩:=hD.slice
 obtain ⟨Ry,c0,rfl⟩:=hC.slice
 refine st Tryz.func249 fun w0 => ?_
 refine gs ?_
 refine gp ?_;intro iI c1 C1 qZ
 refine gz ?_
 exact fin ⟨_,rfl,⟨_,C1,by rw [List.length_append,aE];exact qZ,hr,rfl⟩,rfl⟩ aa
theorem fx (p room:Nat)(bs:List UInt8)(A:Chunk)(n k:Nat)(hA:wW p room bs A)(hk:1<=k/\k<=8)(hn:n<256 ^ k)(hf:bs.length+k<=room):Ct 202 [ptr p,.int .u64 n,.int .i64 k] [A] fun _ Bs=>∃A',wW p room (bs++ae n k) A'/\Bs=[A']:=by
 obtain ⟨v0,C,hC,hr,rfl⟩:=hA
 obtain ⟨Ry,c0,rfl⟩:=hC.slice
 refine st Tryz.func202 fun w0 => ?_
 refine gs ?_
 refine ga ?_;intro b1
 refine ga ?_;intro b2
 refine ga ?_;intro b3
 refine ge ?_
 refine ge ?_
 have hr1:=fun g:Nat=>aw (g:=g) (s:=1) (m:=k) (T:=5) (xs:=ak (ae n k)) (by rw [ai,af];omega) (aK _) oZ k
 have hv:numOf (ae n k)=n:=by rw [uF,Nat.mod_eq_of_lt hn]
 refine gd [0,4,16,9,13,20,24] ?_
 refine gc (Nt n k hk.2) ?_
 rintro _ _ ⟨g,rfl,rfl⟩
 refine gc (HU _ _ hk.2 (af n k) _ _ (hr1 g)) ?_
 rintro _ _ ⟨rfl,rfl⟩
 rw [hv]
 refine gd [0,4,8,13,19,22] ?_
 refine gc (Nt n k hk.2) ?_
 rintro _ _ ⟨g2,rfl,rfl⟩
 refine gc (Nu p room bs (ae n k) _ _ _ ⟨_,C,hC,hr,rfl⟩ (by rw [af];exact hr1 g2) (by rw [af];exact hf)) ?_
 rintro _ _ ⟨A',rfl,dX,rfl⟩
 obtain ⟨v1,C1,qZ,_,rfl⟩:=dX
 obtain ⟨iI,c1,rfl⟩:=qZ.slice
 refine gs ?_
 refine gz ?_
 exact fin ⟨_,⟨_,C1,qZ,hr,rfl⟩,rfl⟩ aa
theorem na (p room:Nat)(bs b:List UInt8)(A D:Chunk)(v:Value)(hA:wW p room bs A)(hD:Rd D 1 v b.length (ak b))(hf:bs.length+b.length<=room):Ct 198 [ptr p,v] [A,D] fun _ Bs=>∃A',wW p room (bs++b) A'/\Bs=[A',D]:=by
 obtain ⟨v0,C,hC,hr,rfl⟩:=hA
 obtain ⟨Ry,c0,rfl⟩:=hC.slice
 obtain ⟨ad,c,rfl⟩:=hD.slice
 refine st Tryz.func198 fun w0 => ?_
 refine gs ?_
 refine ga ?_;intro b1
 refine ga ?_;intro b2
 refine ge ?_
 refine ge ?_
 refine gc (Nu p room bs b _ _ _ ⟨_,C,hC,hr,rfl⟩ hD hf) ?_
 rintro _ _ ⟨A',rfl,⟨v1,C1,qZ,_,rfl⟩,rfl⟩
 obtain ⟨iI,c1,rfl⟩:=qZ.slice
 refine gs ?_
 refine gz ?_
 exact fin ⟨_,⟨_,C1,qZ,hr,rfl⟩,rfl⟩ aa
theorem SH (n:Nat):ak (List.replicate n 0)=List.replicate n (.int .u8 0):=by simp [ak]
theorem HV (p room:Nat)(bs:List UInt8)(A:Chunk)(k:Nat)(hA:wW p room bs A)(hf:bs.length<=k/\k<=room):Ct 201 [ptr p,.int .i64 k] [A] fun _ Bs=>∃A',wW p room (bs++List.replicate (k - bs.length) 0) A'/\Bs=[A']:=by
 obtain ⟨v0,C,hC,hr,rfl⟩:=hA
 obtain ⟨Ry,c0,rfl⟩:=hC.slice
 refine st Tryz.func201 fun w0 => ?_
 refine gs ?_
 refine ga ?_;intro b1
 refine ga ?_;intro b2
 refine ge ?_
 refine ge ?_
 refine gd [0,4,8,12,16,20,24,28,33,39,42] ?_
 refine gm ?_;intro g
 refine gc (Nu p room bs (List.replicate (k - bs.length) 0) _ [(g,av (List.replicate (k - bs.length) (.int .u8 0)) 5)] _ ⟨_,C,hC,hr,rfl⟩ (by rw [SH,List.length_replicate];exact aw (by simp) (fun u hu=>by rw [(List.mem_replicate.1 hu).2];rfl) oZ (k - bs.length)) (by rw [List.length_replicate];omega)) ?_
 rintro _ _ ⟨A',rfl,⟨v1,C1,qZ,_,rfl⟩,rfl⟩
 obtain ⟨iI,c1,rfl⟩:=qZ.slice
 refine gs ?_
 refine gz ?_
 exact fin ⟨_,⟨_,C1,qZ,hr,rfl⟩,rfl⟩ aa
theorem uG (k:Nat)(hk:k<=10000):Ct 197 [.int .i64 k] [] fun u Bs=>∃p A,u=ptr p/\wW p k [] A/\Bs=[A]:=by
 refine st Tryz.func197 fun w0 => ?_
 refine ga ?_;intro b
 refine go ?_
 rw [show max (0:Int) k=k by omega]
 exact fin ⟨b,_,rfl,⟨_,[],az.nil _ _,hk,rfl⟩,rfl⟩ aa
theorem uH (bs:List UInt8)(m:Nat)(hm:bs.length=m)(hb:m<=1000000)(C:Chunk)(v:Value)(h:Rd C 1 v m (ak bs)):Ct 227 [v] [C] fun u Bs=>∃g,u = .slice (some ⟨g,0,none⟩) m m/\Bs=[[(g,av (ak bs) 5)],C]:=by
 subst hm
 obtain ⟨ad,c,rfl⟩:=h.slice
 refine st Tryz.func227 fun w0 => ?_
 refine gm ?_;intro g
 have hl:(List.replicate bs.length (Value.int .u8 0)).take 0++(ak bs).take (min bs.length bs.length)++(List.replicate bs.length (Value.int .u8 0)).drop (0+min bs.length bs.length)=ak bs:=Mz ⟨ai _,List.length_replicate,rfl,rfl⟩
 refine gy ?_
 refine gz ?_
 exact fin ⟨g,rfl,rfl⟩ aa
theorem n8 (p room:Nat)(bs:List UInt8)(A:Chunk)(hA:wW p room bs A)(hb:bs.length<=10000):Ct 200 [ptr p] [A] fun u Bs=>∃g,u = .tuple #[.slice (some ⟨g,0,none⟩) bs.length bs.length,.int .i64 0]/\Bs=[[(g,av (ak bs) 5)],A]:=by
 obtain ⟨v0,C,hC,hr,rfl⟩:=hA
 obtain ⟨Ry,c0,rfl⟩:=hC.slice
 refine st Tryz.func200 fun w0 => ?_
 refine gs ?_
 refine gc (uH bs _ rfl oZ _ _ hC.rd) ?_
 rintro _ _ ⟨g,rfl,rfl⟩
 refine gz ?_
 exact fin ⟨g,rfl,rfl⟩ aa
end Go.Proofs.YtcfioaeamfappaaGreatDoor
namespace Go.Sl
def cut (bs:List UInt8)(i k:Nat):List UInt8:=(bs.drop i).take k
theorem HW {bs:List UInt8}{i k:Nat}(h:i+k<=bs.length):(cut bs i k).length=k:=by simp [cut];omega
theorem Nv {bs:List UInt8}{j:Nat}{x:UInt8}(h:(bs.take j).all (· == 0)=true)(hx:bs[j]? = some x)(h0:x=0):(bs.take (j+1)).all (· == 0)=true:=by
 obtain ⟨hj,rfl⟩:=List.getElem?_eq_some_iff.1 hx
 rw [List.take_succ_eq_append_getElem hj,List.all_append,h];simp [h0]
theorem HX {x:UInt8}:(x.toNat:Int)=0↔x=0:=⟨fun h=>UInt8.toNat_inj.1 (show x.toNat=0 by omega),fun h=>by rw [h];rfl⟩
theorem HY (bs:List UInt8)(i k:Nat):((ak bs).drop (i*1)).take ((i+k - i)*1)=ak (cut bs i k):=by
 rw [Nat.mul_one,Nat.mul_one,Nat.add_sub_cancel_left,aY,aL];rfl
end Go.Sl
namespace Go.Proofs.YtcfioaeamfappaaGreatDoor
open Go.Sl
set_option maxRecDepth 10000
def n9 (p:Nat)(bs:List UInt8)(i e:Nat)(A:Chunk):Prop:=∃g,bs.length<=10000/\A=[(p,av [.slice (some ⟨g,0,none⟩) bs.length bs.length,.int .i64 i,.int .i64 e] 320)]++[(g,av (ak bs) 5)]
theorem zo (bs:List UInt8)(h:bs.length<=10000)(g:Nat):Rd [(g,av (ak bs) 5)] 1 (.slice (some ⟨g,0,none⟩) bs.length bs.length) bs.length (ak bs):=aw (by rw [ai,Nat.mul_one]) (aK _) oZ _
theorem q8 (bs:List UInt8)(m:Nat)(hm:bs.length=m)(hb:m<=10000)(C:Chunk)(v:Value)(h:Rd C 1 v m (ak bs)):Ct 173 [v] [C] fun u Bs=>∃p A,u=ptr p/\n9 p bs 0 0 A/\Bs=[A,C]:=by
 subst hm
 refine st Tryz.func173 fun w0 => ?_
 refine gc (uH bs _ rfl oZ _ _ h) ?_
 rintro _ _ ⟨g,rfl,rfl⟩
 refine ga ?_;intro p
 refine gz ?_
 exact fin ⟨p,_,rfl,⟨g,hb,rfl⟩,rfl⟩ aa
theorem cj (p:Nat)(bs:List UInt8)(i k:Nat)(A:Chunk)(hA:n9 p bs i 0 A)(hk:1<=k/\k<=8)(hi:i+k<=bs.length):Ct 174 [ptr p,.int .i64 k] [A] fun u Bs=>∃A',u = .int .u64 (numOf (cut bs i k))/\n9 p bs (i+k) 0 A'/\Bs=[A']:=by
 obtain ⟨g,hb,rfl⟩:=hA
 have hR:=zo bs hb g
 have hn:i+k - i=k:=by omega
 have nZ:=HY bs i k
 refine st Tryz.func174 fun w0 => ?_
 refine gs ?_
 refine ga ?_;intro b1
 refine ga ?_;intro b2
 refine ga ?_;intro b3
 refine ge ?_
 refine ge ?_
 refine ge ?_
 refine gw ?_;intro ad kr
 refine gc (HU _ k hk.2 (HW hi) _ _ kr) ?_
 rintro _ _ ⟨rfl,rfl⟩
 refine gz ?_
 exact fin ⟨_,rfl,⟨g,hb,rfl⟩,rfl⟩ aa
theorem pA (p:Nat)(bs:List UInt8)(i k:Nat)(A:Chunk)(hA:n9 p bs i 0 A)(hi:i+k<=bs.length):Ct 175 [ptr p,.int .i64 k] [A] fun u Bs=>∃A' b,u = .slice (some ⟨b,0,none⟩) k k/\n9 p bs (i+k) 0 A'/\Bs=[A',[(b,av (ak (cut bs i k)) 5)]]:=by
 obtain ⟨g,hb,rfl⟩:=hA
 have hR:=zo bs hb g
 have hn:i+k - i=k:=by omega
 have nZ:=HY bs i k
 refine st Tryz.func175 fun w0 => ?_
 refine gs ?_
 refine ga ?_;intro b1
 refine ga ?_;intro b2
 refine ga ?_;intro b3
 refine ge ?_
 refine ge ?_
 refine ge ?_
 refine gw ?_;intro ad kr
 refine gc (uH _ k (HW hi) oZ _ _ kr) ?_
 rintro _ _ ⟨b,rfl,rfl⟩
 refine gz ?_
 exact fin ⟨_,b,rfl,⟨g,hb,rfl⟩,rfl⟩ aa
def j1 (bs:List UInt8)(i:Nat):Bool:=(bs.drop i).all (· == 0)
theorem FP (p:Nat)(bs:List UInt8)(i:Nat)(A:Chunk)(hA:n9 p bs i 0 A)(hi:i<=bs.length):Ct 178 [ptr p,.int .i64 bs.length] [A] fun _ Bs=>∃A',n9 p bs (if j1 bs i then bs.length else i) (if j1 bs i then 0 else 14) A'/\Bs=[A']:=by
 obtain ⟨g,hb,rfl⟩:=hA
 have hR:=zo bs hb g
 have hn:bs.length - i=(bs.drop i).length:=by simp
 have nZ:((ak bs).drop (i*1)).take ((bs.length - i)*1)=ak (bs.drop i):=by
  rw [Nat.mul_one,Nat.mul_one,aY,List.take_of_length_le (by rw [ai];simp)]
 refine st Tryz.func178 fun w0 => ?_
 refine gs ?_
 refine ga ?_;intro b1
 refine ga ?_;intro b2
 refine ge ?_
 refine ge ?_
 refine gw ?_;intro ad kr
 refine gl [0,1,29,30] (fun j:Nat=>[(31,.int .i64 j)]) (fun _=>[]) (fun j=>j<=(bs.drop i).length/\((bs.drop i).take j).all (· == 0)=true) (fun j=>(bs.drop i).length - j) 0 ⟨Nat.zero_le _,rfl⟩ ?_
 rintro j ⟨hj,hz⟩
 refine gi ?_ ?_ <;> intro bh
 ·obtain ⟨x,hx⟩:=eB (show j<(bs.drop i).length by omega)
  obtain ⟨b,off,rfl⟩:=kr.addr oZ
  refine gi ?_ ?_ <;> intro h0
  ·have eV:j1 bs i=false:=by
    rw [j1,List.all_eq_false]
    exact ⟨x,List.mem_of_getElem? hx,by simp only [beq_iff_eq];exact fun h=>h0 (HX.2 h)⟩
   refine gz ?_
   exact fin ⟨_,⟨g,hb,rfl⟩,rfl⟩ (by simp only [eV];exact aa)
  ·refine gn ?_
   exact ⟨j+1,⟨by omega,Nv hz hx (HX.1 h0)⟩,by omega,aq,_,aa⟩
 ·have eV:j1 bs i=true:=by rw [j1,<-hz,List.take_of_length_le oZ]
  refine gz ?_
  exact fin ⟨_,⟨g,hb,rfl⟩,rfl⟩ (by simp only [eV];exact aa)
theorem td (p:Nat)(bs:List UInt8)(i e:Nat)(A:Chunk)(hA:n9 p bs i e A)(hi:i<=bs.length):Ct 180 [ptr p] [A] fun u Bs=>u = .int .i64 ((if e=0/\i<bs.length then 13 else e:Nat):Int)/\Bs=[A]:=by
 obtain ⟨g,hb,rfl⟩:=hA
 refine st Tryz.func180 fun w0 => ?_
 refine gs ?_
 refine gg ?_ ?_ <;> intro h1
 ·refine ge ?_
  refine gi ?_ ?_ <;> intro h2
  ·refine gz ?_
   exact fin ⟨by rw [if_pos oZ];rfl,rfl⟩ aa
  ·refine gz ?_
   exact fin ⟨by rw [if_neg oZ],rfl⟩ aa
 ·refine gz ?_
  exact fin ⟨by rw [if_neg oZ],rfl⟩ aa
end Go.Proofs.YtcfioaeamfappaaGreatDoor
namespace Go.Sl
theorem mq {n k:Nat}(h:n<256 ^ k):numOf (ae n k)=n:=by rw [uF,Nat.mod_eq_of_lt h]
theorem JH (b:List UInt8)(q k:Nat):numOf ((b.drop q).take k)<256 ^ k :=
 Nat.lt_of_lt_of_le (uE _) (Nat.pow_le_pow_right oZ (by rw [List.length_take];omega))
structure Pt where
 top:Int
 at_:Int
 bytes:Int
 bj:Nat
 kind:Int
 a:Nat
 b:Nat
 c:Nat
 d:Nat
deriving DecidableEq
def Pt.lay (p:Pt):List Value:=[.int .i64 p.top,.int .i64 p.at_,.int .i64 p.bytes,.int .u64 p.bj,.int .i64 p.kind,.int .u64 p.a,.int .u64 p.b,.int .u64 p.c,.int .u64 p.d]
abbrev Pt.agg (p:Pt):Value:=.agg #[.int .i64 p.top,.int .i64 p.at_,.int .i64 p.bytes,.int .u64 p.bj,.int .i64 p.kind,.int .u64 p.a,.int .u64 p.b,.int .u64 p.c,.int .u64 p.d]
theorem Pt.aj (p:Pt):p.lay.length=9:=rfl
theorem Pt.bC (p:Pt):∀u∈p.lay,u.oneCell'=true:=fun u hu=>by
 simp only [Pt.lay,List.mem_cons,List.not_mem_nil,or_false] at hu
 rcases hu with rfl | rfl | rfl | rfl | rfl | rfl | rfl | rfl | rfl <;> rfl
structure Pt.Ok (p:Pt):Prop where
 top : -9223372036854775808<=p.top/\p.top<=9223372036854775807
 at_ : -9223372036854775808<=p.at_/\p.at_<=9223372036854775807
 bytes : -9223372036854775808<=p.bytes/\p.bytes<=9223372036854775807
 bj:p.bj<18446744073709551616
 kind : -9223372036854775808<=p.kind/\p.kind<=9223372036854775807
 a:p.a<18446744073709551616
 b:p.b<18446744073709551616
 c:p.c<18446744073709551616
 d:p.d<18446744073709551616
def ah:Pt:=⟨0,0,0,0,0,0,0,0,0⟩
theorem dw:ah.Ok:=by constructor <;> simp [ah]
def Pt.JI (p q:Pt):Bool:=p.top==q.top&&(p.at_==q.at_&&(p.bytes==q.bytes&&(((p.bj:Int)==(q.bj:Int))&&(p.kind==q.kind&&(((p.a:Int)==(q.a:Int))&&(((p.b:Int)==(q.b:Int))&&(((p.c:Int)==(q.c:Int))&&((p.d:Int)==(q.d:Int)))))))))
theorem Pt.ext_iff (p q:Pt):p=q↔p.top=q.top/\p.at_=q.at_/\p.bytes=q.bytes/\p.bj=q.bj/\p.kind=q.kind/\p.a=q.a/\p.b=q.b/\p.c=q.c/\p.d=q.d:=by
 cases p;cases q;simp
def Pt.dY (p:Pt):Prop:=0<=p.top/\p.top<4/\0<=p.at_/\p.at_<=40959/\1<=p.bytes/\p.bytes<=1024/\1<=p.bj/\p.bj<=281474976710656/\(p.kind=1\/p.kind=2)
instance (p:Pt):Decidable p.dY:=by unfold Pt.dY;infer_instance
def fy (p:Pt):Int:=if p=ah then 0 else if p.dY then 0 else 40
theorem x4 {p:Pt}(h:fy p=0):p=ah\/p.dY:=by
 unfold fy at h
 split at h
 ·rename_i c;exact .inl c
 ·split at h
  ·rename_i c;exact .inr c
  ·cases h
structure Pt.May (p:Pt):Prop where
 top:0<=p.top/\p.top<4
 at_:0<=p.at_/\p.at_<=40959
 bytes:0<=p.bytes/\p.bytes<=1024
 bj:p.bj<=281474976710656
 kind:0<=p.kind/\p.kind<=2
theorem zp {p:Pt}(h:fy p=0):p.May:=by
 rcases x4 h with rfl | h
 ·constructor <;> simp [ah]
 ·obtain ⟨h1,h2,h3,h4,h5,h6,h7,h8,h9⟩:=h
  constructor <;> omega
def SI (p:Pt):List UInt8:=ae p.a 8++ae p.b 8++ae p.c 8++ae p.d 8
def JJ (p:Pt):List UInt8:=ae p.top.toNat 1++ae p.kind.toNat 1++ae p.bytes.toNat 2++ae p.at_.toNat 4++ae p.bj 8++SI p
theorem lh (p:Pt):(JJ p).length=48:=by simp [JJ,SI,af]
def di (p:Pt):List UInt8:=JJ p++List.replicate 16 0
theorem aZ (p:Pt):(di p).length=64:=by simp [di,lh]
abbrev nm (b:List UInt8)(q k:Nat):Nat:=numOf ((b.drop q).take k)
theorem HZ (b:List UInt8)(q k:Nat):nm b q k<256 ^ k:=JH b q k
def Nw (b:List UInt8)(q:Nat):Pt:=⟨nm b q 1,nm b (q+4) 4,nm b (q+2) 2,nm b (q+8) 8,nm b (q+1) 1,nm b (q+16) 8,nm b (q+24) 8,nm b (q+32) 8,nm b (q+40) 8⟩
theorem p1:(256:Nat) ^ 1=256:=by decide
theorem p2:(256:Nat) ^ 2=65536:=by decide
theorem p4:(256:Nat) ^ 4=4294967296:=by decide
theorem p8:(256:Nat) ^ 8=18446744073709551616:=by decide
theorem bF (x y:List UInt8)(n:Nat){q k:Nat}(h:x.length=q)(hn:n<256 ^ k):nm (x++(ae n k++y)) q k=n:=by
 unfold nm
 rw [List.drop_left' h,List.take_left' (af _ _),mq hn]
theorem BS {p:Pt}(h:p.May)(ho:p.Ok)(x y:List UInt8){q:Nat}(hx:x.length=q):Nw (x++(JJ p++y)) q=p:=by
 obtain ⟨h1,h2,h3,h4,h5⟩:=h
 have e1:=p1;have e2:=p2;have e4:=p4;have e8:=p8
 have ha:=ho.a;have hb:=ho.b;have hc:=ho.c;have hd:=ho.d
 rw [Pt.ext_iff]
 simp only [Nw,JJ,SI,List.append_assoc]
 refine ⟨?_, ?_, ?_, ?_, ?_, ?_, ?_, ?_, ?_⟩
 ·rw [bF _ _ _ hx oZ];omega
 ·have:=bF (x++(ae p.top.toNat 1++(ae p.kind.toNat 1++ae p.bytes.toNat 2))) (ae p.bj 8++(ae p.a 8++(ae p.b 8++(ae p.c 8++(ae p.d 8++y))))) p.at_.toNat (q:=q+4) (k:=4) (by simp [af,hx]) oZ
  simp only [List.append_assoc] at this;rw [this];omega
 ·have:=bF (x++(ae p.top.toNat 1++ae p.kind.toNat 1)) (ae p.at_.toNat 4++(ae p.bj 8++(ae p.a 8++(ae p.b 8++(ae p.c 8++(ae p.d 8++y)))))) p.bytes.toNat (q:=q+2) (k:=2) (by simp [af,hx]) oZ
  simp only [List.append_assoc] at this;rw [this];omega
 ·have:=bF (x++(ae p.top.toNat 1++(ae p.kind.toNat 1++(ae p.bytes.toNat 2++ae p.at_.toNat 4)))) (ae p.a 8++(ae p.b 8++(ae p.c 8++(ae p.d 8++y)))) p.bj (q:=q+8) (k:=8) (by simp [af,hx]) oZ
  simp only [List.append_assoc] at this;rw [this]
 ·have:=bF (x++ae p.top.toNat 1) (ae p.bytes.toNat 2++(ae p.at_.toNat 4++(ae p.bj 8++(ae p.a 8++(ae p.b 8++(ae p.c 8++(ae p.d 8++y))))))) p.kind.toNat (q:=q+1) (k:=1) (by simp [af,hx]) oZ
  simp only [List.append_assoc] at this;rw [this];omega
 ·have:=bF (x++(ae p.top.toNat 1++(ae p.kind.toNat 1++(ae p.bytes.toNat 2++(ae p.at_.toNat 4++ae p.bj 8))))) (ae p.b 8++(ae p.c 8++(ae p.d 8++y))) p.a (q:=q+16) (k:=8) (by simp [af,hx]) oZ
  simp only [List.append_assoc] at this;rw [this]
 ·have:=bF (x++(ae p.top.toNat 1++(ae p.kind.toNat 1++(ae p.bytes.toNat 2++(ae p.at_.toNat 4++(ae p.bj 8++ae p.a 8)))))) (ae p.c 8++(ae p.d 8++y)) p.b (q:=q+24) (k:=8) (by simp [af,hx]) oZ
  simp only [List.append_assoc] at this;rw [this]
 ·have:=bF (x++(ae p.top.toNat 1++(ae p.kind.toNat 1++(ae p.bytes.toNat 2++(ae p.at_.toNat 4++(ae p.bj 8++(ae p.a 8++ae p.b 8))))))) (ae p.d 8++y) p.c (q:=q+32) (k:=8) (by simp [af,hx]) oZ
  simp only [List.append_assoc] at this;rw [this]
 ·have:=bF (x++(ae p.top.toNat 1++(ae p.kind.toNat 1++(ae p.bytes.toNat 2++(ae p.at_.toNat 4++(ae p.bj 8++(ae p.a 8++(ae p.b 8++ae p.c 8)))))))) y p.d (q:=q+40) (k:=8) (by simp [af,hx]) oZ
  simp only [List.append_assoc] at this;rw [this]
structure Fs where
 a:Nat
 b:Nat
 c:Nat
 d:Nat
deriving DecidableEq
abbrev Fs.agg (s:Fs):Value:=.agg #[.int .u64 s.a,.int .u64 s.b,.int .u64 s.c,.int .u64 s.d]
def zq:Fs:=⟨0,0,0,0⟩
def m64:Nat:=18446744073709551616
def BT (s:Fs)(w:Nat):Fs :=
 let a:=(s.a+w) % m64
 let b:=(s.b+a) % m64
 let c:=(s.c+b) % m64
 ⟨a,b,c,(s.d+c) % m64⟩
structure Fs.Ok (s:Fs):Prop where
 a:s.a<18446744073709551616
 b:s.b<18446744073709551616
 c:s.c<18446744073709551616
 d:s.d<18446744073709551616
theorem Nx (s:Fs)(w:Nat):(BT s w).Ok:=⟨Nat.mod_lt _ dZ,Nat.mod_lt _ dZ,Nat.mod_lt _ dZ,Nat.mod_lt _ dZ⟩
def fsN (b:List UInt8):Nat->Fs
 | 0=>zq
 | i+1=>BT (fsN b i) (nm b (4*i) 4)
def aF (b:List UInt8):Fs:=fsN b ((b.length+3) / 4)
theorem Yf (b:List UInt8):∀i,(fsN b i).Ok
 | 0=>by constructor <;> (show 0<_;decide)
 | i+1=>Nx _ _
theorem nc (b:List UInt8):(aF b).Ok:=Yf b _
abbrev gb (b:List UInt8)(j:Nat):UInt8:=b.getD j 0
theorem H0 (b:List UInt8)(q:Nat):nm b q 4=(gb b q).toNat+(gb b (q+1)).toNat*2 ^ 8+(gb b (q+2)).toNat*2 ^ 16+(gb b (q+3)).toNat*2 ^ 24:=by
 have key:∀c:List UInt8,numOf (c.take 4)=(c.getD 0 0).toNat+(c.getD 1 0).toNat*2 ^ 8+(c.getD 2 0).toNat*2 ^ 16+(c.getD 3 0).toNat*2 ^ 24:=by
  intro c
  match c with
  | []=>rfl
  | [x]=>simp [numOf]
  | [x,y]=>simp [numOf];omega
  | [x,y,z]=>simp [numOf];omega
  | x :: y :: z :: t :: r=>simp [numOf];omega
 have g:∀j,(b.drop q).getD j 0=gb b (q+j):=fun j=>by simp [gb,List.getD,List.getElem?_drop]
 unfold nm
 rw [key,g,g,g,g,Nat.add_zero]
theorem sh (b:List UInt8){j:Nat}(h:j<b.length):gb b j=b[j]:=by simp [gb,List.getD,h]
theorem Yg (b:List UInt8){j:Nat}(h:b.length<=j):gb b j=0:=by simp [gb,List.getD,List.getElem?_eq_none h]
theorem SJ (x y:Nat):IntKind.u64.wrap ((x:Int)+(y:Int))=(((x+y) % m64:Nat):Int):=by
 rw [IntKind.wrap_u64];unfold m64;omega
structure xj (b:List UInt8)(i:Nat)(s:Fs)(x0 x1 x2 x3:UInt8)(k:Nat):Prop where
 le:i<=b.length
 hk:k=i % 4
 hs:s=fsN b (i / 4)
 h0:x0=if 0<k then gb b (4*(i / 4)) else 0
 h1:x1=if 1<k then gb b (4*(i / 4)+1) else 0
 h2:x2=if 2<k then gb b (4*(i / 4)+2) else 0
 h3:x3=0
theorem xj.start (b:List UInt8):xj b 0 zq 0 0 0 0 0:=⟨by omega,rfl,rfl,rfl,rfl,rfl,rfl⟩
def nU (x0 x1 x2 x3:UInt8):Nat:=x0.toNat+x1.toNat*2 ^ 8+x2.toNat*2 ^ 16+x3.toNat*2 ^ 24
theorem xj.s0 {b:List UInt8}{i:Nat}{s:Fs}{x0 x1 x2 x3:UInt8}(h:xj b i s x0 x1 x2 x3 0)(hi:i<b.length):xj b (i+1) s b[i] x1 x2 x3 1:=by
 obtain ⟨h1,h2,h3,h4,h5,h6,h7⟩:=h
 have e:(i+1) / 4=i / 4:=by omega
 exact ⟨by omega,by omega,by rw [e,h3],by rw [if_pos oZ,e,show 4*(i / 4)=i by omega,sh b hi],by rw [h5];simp,by rw [h6];simp,h7⟩
theorem xj.s1 {b:List UInt8}{i:Nat}{s:Fs}{x0 x1 x2 x3:UInt8}(h:xj b i s x0 x1 x2 x3 1)(hi:i<b.length):xj b (i+1) s x0 b[i] x2 x3 2:=by
 obtain ⟨h1,h2,h3,h4,h5,h6,h7⟩:=h
 have e:(i+1) / 4=i / 4:=by omega
 exact ⟨by omega,by omega,by rw [e,h3],by rw [h4,e];simp,by rw [if_pos oZ,e,show 4*(i / 4)+1=i by omega,sh b hi],by rw [h6];simp,h7⟩
theorem xj.s2 {b:List UInt8}{i:Nat}{s:Fs}{x0 x1 x2 x3:UInt8}(h:xj b i s x0 x1 x2 x3 2)(hi:i<b.length):xj b (i+1) s x0 x1 b[i] x3 3:=by
 obtain ⟨h1,h2,h3,h4,h5,h6,h7⟩:=h
 have e:(i+1) / 4=i / 4:=by omega
 exact ⟨by omega,by omega,by rw [e,h3],by rw [h4,e];simp,by rw [h5,e];simp,by rw [if_pos oZ,e,show 4*(i / 4)+2=i by omega,sh b hi],h7⟩
theorem xj.s3 {b:List UInt8}{i:Nat}{s:Fs}{x0 x1 x2 x3:UInt8}(h:xj b i s x0 x1 x2 x3 3)(hi:i<b.length):xj b (i+1) (BT s (nU x0 x1 x2 b[i])) 0 0 0 0 0:=by
 obtain ⟨h1,h2,h3,h4,h5,h6,h7⟩:=h
 have e:(i+1) / 4=i / 4+1:=by omega
 refine ⟨by omega,by omega, ?_,rfl,rfl,rfl,rfl⟩
 rw [e,fsN,h3,H0,nU,h4,h5,h6,if_pos oZ,if_pos oZ,if_pos oZ,<-sh b hi,show 4*(i / 4)+3=i by omega]
theorem xj.aaX {b:List UInt8}{s:Fs}{x0 x1 x2 x3:UInt8}(h:xj b b.length s x0 x1 x2 x3 0):s=aF b:=by
 rw [h.hs,aF];have:=h.hk;rw [show (b.length+3) / 4=b.length / 4 by omega]
theorem xj.done {b:List UInt8}{s:Fs}{x0 x1 x2 x3:UInt8}{k:Nat}(h:xj b b.length s x0 x1 x2 x3 k)(hk:k≠0):BT s (nU x0 x1 x2 x3)=aF b:=by
 obtain ⟨h1,h2,h3,h4,h5,h6,h7⟩:=h
 have e:(b.length+3) / 4=b.length / 4+1:=by omega
 have o:∀j,(if j<k then gb b (4*(b.length / 4)+j) else 0)=gb b (4*(b.length / 4)+j):=fun j=>by
  split
  ·rfl
  ·rw [Yg b oZ]
 have o0:=o 0;have o1:=o 1;have o2:=o 2;have o3:=o 3
 rw [Nat.add_zero] at o0
 rw [aF,e,fsN,h3,H0,nU,h4,h5,h6,h7,o0,o1,o2,<-o3,if_neg oZ]
def Fs.JI (p q:Fs):Bool:=((p.a:Int)==(q.a:Int))&&(((p.b:Int)==(q.b:Int))&&(((p.c:Int)==(q.c:Int))&&((p.d:Int)==(q.d:Int))))
theorem Fs.FQ (p q:Fs):p.JI q=decide (p=q):=by
 cases p;cases q
 rw [Bool.eq_iff_iff]
 simp only [Fs.JI,Bool.and_eq_true,beq_iff_eq,decide_eq_true_eq,Fs.mk.injEq]
 omega
theorem Ny (x0 x1:UInt8):bits .or .u64 (x0.toNat:Int) ((x1.toNat*2 ^ 8:Nat):Int)=((x0.toNat+x1.toNat*2 ^ 8:Nat):Int):=oru (by have:=x0.toNat_lt;omega) (by have:=x0.toNat_lt;have:=x1.toNat_lt;omega)
theorem Nz (x0 x1 x2:UInt8):bits .or .u64 ((x0.toNat+x1.toNat*2 ^ 8:Nat):Int) ((x2.toNat*2 ^ 16:Nat):Int)=((x0.toNat+x1.toNat*2 ^ 8+x2.toNat*2 ^ 16:Nat):Int):=oru (by have:=x0.toNat_lt;have:=x1.toNat_lt;omega) (by have:=x0.toNat_lt;have:=x1.toNat_lt;have:=x2.toNat_lt;omega)
theorem NA (x0 x1 x2 x3:UInt8):bits .or .u64 ((x0.toNat+x1.toNat*2 ^ 8+x2.toNat*2 ^ 16:Nat):Int) ((x3.toNat*2 ^ 24:Nat):Int)=((nU x0 x1 x2 x3:Nat):Int):=oru (by have:=x0.toNat_lt;have:=x1.toNat_lt;have:=x2.toNat_lt;omega) (by have:=x0.toNat_lt;have:=x1.toNat_lt;have:=x2.toNat_lt;have:=x3.toNat_lt;omega)
theorem zr {x:UInt8}(j:Nat)(h:j<=24):IntKind.u64.wrap ((x.toNat:Int)*2 ^ ((j:Nat):Int).toNat)=((x.toNat*2 ^ j:Nat):Int):=aal (by
 have:=x.toNat_lt
 have:2 ^ j<=2 ^ 24:=Nat.pow_le_pow_right oZ h
 calc x.toNat*2 ^ j<=256*2 ^ 24:=Nat.mul_le_mul oZ this
  _<_:=by decide)
end Go.Sl
namespace Go.Proofs.YtcfioaeamfappaaGreatDoor
open Go.Sl
set_option maxRecDepth 10000
theorem NB (s:Fs)(x0 x1 x2 x3:UInt8):Ct 274 [s.agg,.agg #[.int .u8 x0.toNat,.int .u8 x1.toNat,.int .u8 x2.toNat,.int .u8 x3.toNat]] [] fun u Bs=>u=(BT s (nU x0 x1 x2 x3)).agg/\Bs=[]:=by
 have w1:IntKind.u64.wrap ((x1.toNat:Int)*2 ^ (8:Int).toNat)=((x1.toNat*2 ^ 8:Nat):Int):=zr 8 oZ
 have w2:IntKind.u64.wrap ((x2.toNat:Int)*2 ^ (16:Int).toNat)=((x2.toNat*2 ^ 16:Nat):Int):=zr 16 oZ
 have w3:IntKind.u64.wrap ((x3.toNat:Int)*2 ^ (24:Int).toNat)=((x3.toNat*2 ^ 24:Nat):Int):=zr 24 oZ
 have o1:=Ny x0 x1
 have o2:=Nz x0 x1 x2
 have o3:=NA x0 x1 x2 x3
 have h1:=SJ s.a (nU x0 x1 x2 x3)
 have h2:=SJ s.b ((s.a+nU x0 x1 x2 x3) % m64)
 have h3:=SJ s.c ((s.b+(s.a+nU x0 x1 x2 x3) % m64) % m64)
 have h4:=SJ s.d ((s.c+(s.b+(s.a+nU x0 x1 x2 x3) % m64) % m64) % m64)
 refine st Tryz.func274 fun w0 => ?_
 refine ga ?_;intro b1
 refine ga ?_;intro b2
 refine ga ?_;intro b3
 refine gz ?_
 exact fin ⟨rfl,rfl⟩ aa
abbrev Yh (s:Fs)(x0 x1 x2 x3:UInt8)(k:Nat):Obj:=av [.int .u64 s.a,.int .u64 s.b,.int .u64 s.c,.int .u64 s.d,.int .u8 x0.toNat,.int .u8 x1.toNat,.int .u8 x2.toNat,.int .u8 x3.toNat,.int .i64 k] 360
theorem aaY (O:Chunk)(v:Value)(b:List UInt8)(m:Nat)(hm:b.length=m)(hO:Rd O 1 v m (ak b))(cV:m<=1000000)(p:Nat):Ct 244 [ptr p,v] [[(p,Yh zq 0 0 0 0 0)],O] fun _ Bs=>∃s x0 x1 x2 x3 k,xj b b.length s x0 x1 x2 x3 k/\Bs=[[(p,Yh s x0 x1 x2 x3 k)],O]:=by
 subst hm
 obtain ⟨ad,c,rfl⟩:=hO.slice
 refine st Tryz.func244 fun w0 => ?_
 refine gl [0,6,7] (fun ((i,_):Nat×Fs×UInt8×UInt8×UInt8×UInt8×Nat)=>[(8,.int .i64 i)]) (fun (_,s,x0,x1,x2,x3,k)=>[[(p,Yh s x0 x1 x2 x3 k)]]) (fun (i,s,x0,x1,x2,x3,k)=>xj b i s x0 x1 x2 x3 k) (fun q=>b.length - q.1) (0,zq,0,0,0,0,0) (xj.start b) ?_
 rintro ⟨i,s,x0,x1,x2,x3,k⟩ hR
 simp only at hR
 have hi:=hR.le
 have hk:=hR.hk
 refine gi ?_ ?_ <;> intro bh
 ·have NC:i<b.length:=by omega
  have hx:b[i]? = some b[i]:=List.getElem?_eq_getElem NC
  obtain ⟨g,off,rfl⟩:=hO.addr oZ
  have LM:k=0\/k=1\/k=2\/k=3:=by omega
  rcases LM with rfl | rfl | rfl | rfl
  ·refine gn ?_
   exact ⟨(i+1,s,b[i],x1,x2,x3,1),hR.s0 NC,by simp only;omega,aq,_,aa⟩
  ·refine gn ?_
   exact ⟨(i+1,s,x0,b[i],x2,x3,2),hR.s1 NC,by simp only;omega,aq,_,aa⟩
  ·refine gn ?_
   exact ⟨(i+1,s,x0,x1,b[i],x3,3),hR.s2 NC,by simp only;omega,aq,_,aa⟩
  ·refine gd [0,4,8,12,16,20,24,28,32,37,40,44,51] ?_
   refine gc (NB s x0 x1 x2 b[i]) ?_
   rintro _ _ ⟨rfl,rfl⟩
   refine gn ?_
   exact ⟨(i+1,_,0,0,0,0,0),hR.s3 NC,by simp only;omega,aq,_,aa⟩
 ·obtain rfl:i=b.length:=by omega
  refine gz ?_
  exact fin ⟨s,x0,x1,x2,x3,k,hR,rfl⟩ aa
end Go.Proofs.YtcfioaeamfappaaGreatDoor
