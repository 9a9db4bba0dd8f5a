/-
  14.
-/
import Derived.Test.YtpabnmeponmonaaGreatDoorZTopCrashes13
set_option maxRecDepth 10000
set_option maxHeartbeats 4000000
open List Go.Proofs.Tryz Go.Sl
namespace Go.Sl
def MpN (r:Nat)(k:IntKind)(L:List (Int×Value))(q:Int)(z:Value)(c:Nat)(C:Chunk):Prop:=∃Ms,Ms.map kv=L/\vv Ms c/\(∀m∈Ms,m.key≠q)/\C=[(r,.map (jG k (Ms++[⟨q,z,c⟩])) (c+1))]
theorem Vx (k:IntKind)(A:List Me)(m:Me)(v:Value):(jG k (A++[m])).modify A.length (fun e=>{ e with val:=v })=jG k (A++[{ m with val:=v }]):=by
 apply Array.ext
 ·simp
 ·intro i h1 h2
  rw [Array.getElem_modify]
  simp only [jG,map_append,map_cons,getElem_toArray]
  by_cases c:A.length=i
  ·subst c
   rw [if_pos rfl]
   simp [Me.en]
  ·rw [if_neg c,getElem_append,getElem_append]
   split
   ·rfl
   ·rename_i hc
    simp only [length_map] at hc ⊢
    obtain ⟨j,hj⟩:∃j,i - A.length=j+1:=⟨i - A.length - 1,by omega⟩
    simp only [hj,getElem_cons_succ]
theorem Rh {k:IntKind}{A:List Me}{m:Me}{c:Nat}(hA:∀z∈A,z.born<c)(hm:m.born=c):(jG k (A++[m])).findIdx? (fun e=>(e.born:Int)==(c:Int))=some A.length:=by
 rw [jG,findIdx?_toArray,map_append,findIdx?_append]
 have h1:(A.map (Me.en k)).findIdx? (fun e=>(e.born:Int)==(c:Int))=none:=by
  rw [findIdx?_eq_none_iff]
  intro e he
  obtain ⟨z,hz,rfl⟩:=mem_map.1 he
  have:=hA z hz
  simp only [Me.en,beq_eq_false_iff_ne,ne_eq];omega
 rw [h1]
 simp [hm]
section
variable {X:Cx}{f:Fx}{k:Kt}{e:Env}{Ls Rs:List Chunk}{ops:List Oper}{Ms:List Chunk}{r':aB}{κ d:Nat}{v:Value}{t et:TypeId}{x y z:Operand}{r:Nat}{kk:IntKind}{L:List (Int×Value)}{q:Int}{C:Chunk}
theorem WD.afq (hκ:dR κ=true)(hx:ev e x=some (.map (some r)))(hy:ev e y=some (.int kk q))(hT:X.T.Ok X.P)(ht:S7 X.T t=some (et,kk))(hz:zv X.T et=some v)(hC:Mp r kk L C)(hp:Ls.Perm (C :: Rs))(hl:kx L q=none)
  (hM:cZ κ Ms Rs) (g:∀(c:Nat) C',MpN r kk L q v c C'->WO X f ops k Ms r' ((d,.tuple #[v,.int .i64 c]) :: e) (C' :: Rs)):WD X f ops k Ms κ (some d) (.mapEntry t x y) r' e Ls:=by
 obtain ⟨kt,h1,h2⟩:=pD hT ht
 obtain ⟨es,clock,rfl,oG,rfl⟩:=hC
 unfold zv at hz
 split at hz
 ·rename_i i hi
  have hi:=hT.ty _ _ hi
  have hn:=vU hl
  refine .ac hκ fun o a w ho hd IU E S => ?_
  have hb:=S.get hp
  have hf:=qx (k:=kk) 0 hn
  have hp':(jG kk es).push { key:=.int kk q,val:=v,born:=clock }=jG kk (es++[⟨q,v,clock⟩]):=CY kk es ⟨q,v,clock⟩
  have dQ:ab X.P o a w (.tuple #[v,.int .i64 clock]) { w with heap:=w.heap.setIfInBounds r (.map (jG kk (es++[⟨q,v,clock⟩])) (clock+1)) }:=by
   rw [<-hp']
   have hf':Instr.findNow (.int kk) (.int kk q) (jG kk es).toList 0=some none:=hf
   generalize jG kk es=L0 at *
   simp [ab,execOp,ho,E.eval hx,E.eval hy,Instr.mapEntry,run_underlying h1,Go.MapKept.run_getObj_map hb,dM h2,Go.MapKept.run_findKey h2 hf',zeroValue,typeInfo,hi,hz,Go.MapKept.run_setObj_map _ hb,goInt]
  refine dQ.wp ?_
  rw [hd]
  exact KO.mk rfl (fun h C hC=>mem_cons_of_mem _ (hM h C hC)) (g clock _ ⟨es,rfl,oG,hn,rfl⟩) (E.put (IU d rfl) _) (bQ S hp)
 ·cases hz
theorem WD.afr {c:Nat}{w:Value}(hκ:dR κ=true)(hx:ev e x=some (.map (some r)))(hy:ev e y=some (.int .i64 c))(hz:ev e z=some v)(hC:MpN r kk L q w c C)(hp:Ls.Perm (C :: Rs))
  (hM:cZ κ Ms Rs) (g:∀C',Mp r kk (L++[(q,v)]) C'->WO X f ops k Ms r' e (C' :: Rs)):WD X f ops k Ms κ none (.entryStore t x y z) r' e Ls:=by
 obtain ⟨es,rfl,oG,hn,rfl⟩:=hC
 refine .ac hκ fun o a w' ho hd _ E S => ?_
 have hb:=S.get hp
 have hf:=Rh (k:=kk) (A:=es) (m:=⟨q,w,c⟩) (c:=c) oG.born rfl
 have hv:=Vx kk es ⟨q,w,c⟩ v
 have S':=bQ (ob':=.map (jG kk (es++[⟨q,v,c⟩])) (c+1)) S hp
 refine jg.wp (w':={ w' with heap:=w'.heap.setIfInBounds r (.map (jG kk (es++[⟨q,v,c⟩])) (c+1)) }) ?_ (by
  rw [hd]
  exact KO.mk rfl (fun h C hC=>mem_cons_of_mem _ (hM h C hC)) (g _ ⟨es++[⟨q,v,c⟩],c+1,by simp [kv],yW oG rfl hn,rfl⟩) (E.CH _) S')
 unfold jg
 simp only at hv
 rw [<-hv]
 generalize jG kk (es++[⟨q,w,c⟩])=L0 at *
 simp [execOp,ho,E.eval hx,E.eval hy,E.eval hz,Instr.entryStore,Go.MapKept.run_getObj_map hb,asInt,asIntOf,hf,Go.MapKept.run_setObj_map _ hb]
end
end Go.Sl
namespace Go.Proofs.YtpabnmeponmonaaGreatDoor
theorem gme {G H:Prop}(k:H)(h:im H->G:=by
 intro kk;refine go ?_;refine WO.dec rfl ?_
 apply WD.afq;exact rfl;exact rfl;exact rfl;exact aD;exact rfl;exact rfl;assumption;exact pick;assumption;exact keeps;exact kk.out):G:=h ⟨k⟩
theorem gms {G H:Prop}(k:H)(h:im H->G:=by
 intro kk;refine go ?_;refine WO.dec rfl ?_
 apply WD.afr;exact rfl;exact rfl;exact rfl;exact rfl;assumption;exact pick;exact keeps;exact kk.out):G:=h ⟨k⟩
end Go.Proofs.YtpabnmeponmonaaGreatDoor
namespace Go.Sl
theorem tZ {P:Program}{w:World}{t tx ty T T2:TypeId}{i:TypeInfo}{ad ad2:Option Addr}{n c c2:Nat}(ht:P.underlying t=some (.slice T))(xU:P.underlying tx=some (.slice T2))(hi:P.info? T=some i)(hc:n<=c) :
  (Builtin.append_ #[t,tx] ty #[.slice ad n c,.slice ad2 0 c2]).run P w = .ok (.slice ad n c) w:=by
 have hf:(Builtin.firstCells i.size 0 (.slice ad2 0 c2)).run P w = .ok #[] w:=by
  cases ad2 with
  | none=>exact run_firstCells_none w i.size 0 0 c2
  | some a=>exact run_firstCells_some w i.size 0 a 0 c2 [] (by simp) fun j z hz=>by simp at hz
 cases ad with
 | none=>simp [Builtin.append_,run_underlying ht,run_underlying xU,sizeOf,typeInfo,hi,Builtin.lenOf,hf,hc]
 | some a=>simp [Builtin.append_,run_underlying ht,run_underlying xU,sizeOf,typeInfo,hi,Builtin.lenOf,hf,hc,storeCells]
section
variable {X:Cx}{f:Fx}{k:Kt}{e:Env}{Ls:List Chunk}{ops:List Oper}{Ms:List Chunk}{r':aB}{κ d:Nat}{t tx:TypeId}{x y:Operand}
theorem WD.afs {C:Chunk}{el:TypeId}{ja m s q b off:Nat}{u zv:Value}{xs ys:List Value}(hκ:dR κ=true)(hx:ev e x=some (.slice (some ⟨b,off,none⟩) q q))(hy:ev e y=some u)(hT:X.T.Ok X.P)(hi:I1 X.T t=some (el,s,ja,zv))(hB:Rd C s (.slice (some ⟨b,off,none⟩) q q) q xs)(hm:C∈Ls)(hs:GS X.T Ls s tx u m ys)(hb:q+m<=maxLen/\(q+m)*ja<=140737488355328)(h0:0<m)
  (hM:cZ κ Ms Ls) (g:∀ad c C',aC C' el s (.slice ad (q+m) c) (q+m) (xs++ys)->WO X f ops k Ms r' ((d,.slice ad (q+m) c) :: e) (C' :: Ls)):WD X f ops k Ms κ (some d) (.call ⟨.builtin .append,⟨[x,y]⟩,⟨[t,tx]⟩⟩) r' e Ls:=by
 obtain ⟨i,g1,g2,g3,g4,g5,g6⟩:=jb hT hi
 exact .ac hκ fun _ _ w ho hd hn E S=>GC E S ho hd (hn d rfl) hx hy hB hm (hs X.P w hT S.kE) g1 g2 g3 g4 g5 g6 hb.1 hb.2 h0 fun _ _ v' C' E' S' Ci=>by obtain ⟨ad,c,rfl⟩:=Ci.slice;exact KO.mk rfl (fun h C hC=>mem_cons_of_mem _ (hM h C hC)) (g ad c C' Ci) E' S'
theorem WD.afu {el:TypeId}{ja s q c c2:Nat}{ad ad2:Option Addr}{zv:Value}(hκ:dR κ=true)(hx:ev e x=some (.slice ad q c))(hy:ev e y=some (.slice ad2 0 c2))(hT:X.T.Ok X.P)(hi:I1 X.T t=some (el,s,ja,zv))(xU:GR X.T tx=true)(hc:q<=c)
  (hM:cZ κ Ms Ls) (g:WO X f ops k Ms r' ((d,.slice ad q c) :: e) Ls):WD X f ops k Ms κ (some d) (.call ⟨.builtin .append,⟨[x,y]⟩,⟨[t,tx]⟩⟩) r' e Ls:=by
 obtain ⟨i,g1,g2,g3,g4,g5,g6⟩:=jb hT hi
 obtain ⟨el2,h2⟩:=An hT xU
 refine .ac hκ fun o a w ho hd hn E S => ?_
 have hr:=tZ (P:=X.P) (w:=w) (ty:=o.type) (ad:=ad) (ad2:=ad2) (n:=q) (c:=c) (c2:=c2) g1 h2 g2 hc
 have dQ:ab X.P o a w (.slice ad q c) w:=by
  simp [ab,execOp,ho,resolve,invoke,builtin,E.eval hx,E.eval hy,hr]
 refine dQ.wp ?_
 rw [hd]
 exact KO.mk rfl hM g (E.put (hn d rfl) _) S
end
end Go.Sl
namespace Go.Proofs.YtpabnmeponmonaaGreatDoor
theorem gpf {G H:Prop}(k:H)(h:im H->G:=by
 intro kk;refine go ?_;refine WO.dec rfl ?_
 apply WD.afs;exact rfl;exact rfl;exact rfl;exact aD;exact rfl;assumption;exact mem;exact TV;exact szs;exact om;exact keeps;exact kk.out):G:=h ⟨k⟩
theorem gpe {G H:Prop}(k:H)(h:im H->G:=by
 intro kk;refine go ?_;refine WO.dec rfl ?_
 apply WD.afu;exact rfl;exact rfl;exact rfl;exact aD;exact rfl;exact rfl;exact om;exact keeps;exact kk.out):G:=h ⟨k⟩
section
variable (a:Nat)(l:List aw)(aO:kN l)(ae note room:Nat)(fe:room<=100000)(vG vS:Value)(ad:Option Addr)(c:Nat)(D O:Chunk)(hD:Rd D 130 (.slice ad l.length c) l.length (l.flatMap aw.lay))(hO:HL O l)
theorem HY (k z:Int)(h:¬(1<=k/\k<=112)\/¬(1<=z/\z<=112)):Ct 53 [ptr a,.int .i64 k,.int .i64 z] [] fun u Bs=>u = .int .i64 1/\Bs=[]:=by
 refine st func53 fun w0 => ?_
 refine gc (cR k) ?_
 rintro _ _ ⟨rfl,rfl⟩
 refine gc (cR z) ?_
 rintro _ _ ⟨rfl,rfl⟩
 by_cases hk:1<=k/\k<=112
 ·rw [decide_eq_true hk,decide_eq_false (h.resolve_left (fun c=>c hk))]
  refine gz ?_
  exact fin ⟨rfl,rfl⟩ aa
 ·rw [decide_eq_false hk]
  refine gz ?_
  exact fin ⟨rfl,rfl⟩ aa
theorem HZ (k:Int)(h:¬(1<=k/\k<=112)):Ct 55 [ptr a,.int .i64 k] [] fun u Bs=>u = .int .i64 1/\Bs=[]:=by
 have hn:=cR k
 rw [decide_eq_false h] at hn
 refine st func55 fun w0 => ?_
 refine gc hn ?_
 rintro _ _ ⟨rfl,rfl⟩
 refine gz ?_
 exact fin ⟨rfl,rfl⟩ aa
include aO
theorem Ri (k:Int)(hk:1<=k/\k<=112)(hH:MF D (.slice ad l.length c) l.length (l.flatMap aw.lay))(hc:l.length<=c) :
  Ct 55 [ptr a,.int .i64 k] [[(a,iJ (.slice ad l.length c) ae note room vG vS)],D] fun u Bs=>(eM l k=none/\u = .int .i64 130/\Bs=[[(a,iJ (.slice ad l.length c) ae note room vG vS)],D])\/∃i o l' bz c' D',l[i]? = some o/\eM l k=some o/\l'=l.take i++l.drop (i+1)/\u = .int .i64 0/\MF D' (.slice bz l'.length c') l'.length (l'.flatMap aw.lay)/\l'.length<=c'/\Bs=[[(a,iJ (.slice bz l'.length c') ae note room vG vS)],D']:=by
 have hn:=cR k
 rw [decide_eq_true hk] at hn
 have hD:=hH.1
 have ic:=re a l aO ae note room vG vS ad c D hD k
 have mM:=aO.jd
 refine st func55 fun w0 => ?_
 refine gc hn ?_
 rintro _ _ ⟨rfl,rfl⟩
 refine gc ic ?_
 rintro _ _ ⟨⟨rfl,hn⟩ | ⟨i,o,rfl,hi,hn⟩,rfl⟩
 ·refine gz ?_
  exact fin (.inl ⟨hn,rfl,rfl⟩) aa
 ·have bh:=(List.getElem?_eq_some_iff.1 hi).1
  rcases hH.2 with h0 | ⟨g,c',r,hv,rfl⟩
  ·omega
  cases hv
  have ny:(l.drop (i+1)).length=l.length - (i+1):=length_drop ..
  have qc:((l.flatMap aw.lay).drop ((i+1)*130)).take ((l.length - (i+1))*130)=(l.drop (i+1)).flatMap aw.lay:=by
   rw [sI aw.ak,take_of_length_le (by rw [gA aw.ak,ny];exact Nat.le_refl _)]
  have hRi:Rd [(g,ax (l.flatMap aw.lay++r) 81)] 130 (.slice (some ⟨g,0,none⟩) i i) i ((l.take i).flatMap aw.lay):=by
   have h1:=k9 aw.ak i l
   refine ⟨by rw [gA aw.ak,length_take,Nat.min_eq_left oZ],fun u hu=>hD.2.1 u ?_,by simp only [maxLen];omega,.inr ⟨g,0,i,_,_,_,rfl,mem_singleton.2 rfl,fun j u hu => ?_⟩⟩
   ·rw [<-h1] at hu;exact mem_of_mem_take hu
   ·rw [<-h1] at hu
    rw [Nat.zero_add,getElem?_toArray,getElem?_append_left (by have:=(List.getElem?_eq_some_iff.1 hu).1;rw [length_take] at this;omega)]
    rw [getElem?_take] at hu
    split at hu
    ·exact hu
    ·cases hu
  by_cases XX:l.length=i+1
  ·have Nw:l.length - (i+1)=0:=oZ
   have hn0:i - 0=i:=rfl
   have jI:l.take i++l.drop (i+1)=l.take i:=by rw [drop_of_length_le oZ,append_nil]
   have hti:(l.take i).length=i:=by rw [length_take];omega
   refine gw ?_;intro tT hR7
   refine gp ?_;intro ze c8 E8 hE8
   refine gv ?_
   refine gpe ?_
   refine gz ?_
   refine fin (.inr ⟨i,o,l.take i,some ⟨g,0,none⟩,i,_,hi,hn,jI.symm,rfl,⟨by rw [hti];exact hRi,.inr ⟨g,i,(l.drop i).flatMap aw.lay++r,by rw [hti], ?_⟩⟩,by omega,by rw [hti]⟩) aa
   rw [<-append_assoc,<-flatMap_append,take_append_drop]
  ·obtain ⟨q,hq⟩:∃q,l.length - (i+1)=q:=⟨_,rfl⟩
   have hn0:i - 0=i:=rfl
   have jI:(l.take i++l.drop (i+1)).length=i+q:=by rw [length_append,length_take,ny];omega
   refine gw ?_;intro tT hR7
   refine gp ?_;intro ze c8 E8 hE8
   refine gv ?_
   refine gpf ?_;intro NG c9 E9 hE9
   rw [<-flatMap_append] at hE9
   refine gz ?_
   refine fin (.inr ⟨i,o,l.take i++l.drop (i+1),NG,c9,E9,hi,hn,rfl,rfl,by rw [jI];exact MF.of hE9,by rw [jI];exact hE9.eH,by rw [jI]⟩) aa
include hD hO fe
theorem rp (k:Int)(hk:1<=k/\k<=112)(z:Nat)(hz:1<=z/\z<=112) :
  Ct 53 [ptr a,.int .i64 k,.int .i64 z] [[(a,iJ (.slice ad l.length c) ae note room vG vS)],D,O] fun u Bs=>(eM l k=none/\u = .int .i64 130/\Bs=[[(a,iJ (.slice ad l.length c) ae note room vG vS)],D,O])\/∃o,eM l k=some o/\((k=z/\u = .int .i64 0/\Bs=[[(a,iJ (.slice ad l.length c) ae note room vG vS)],D,O])\/(k≠z/\cQ l z o.b.length room=false/\u = .int .i64 3/\Bs=[[(a,iJ (.slice ad l.length c) ae note room vG vS)],D,O])\/(k≠z/\cQ l z o.b.length room=true/\u = .int .i64 0/\∃v l' bz c' D' E,l'=dT { o with no:=z,v:=v } false l/\HL (O++E) l' /\
   aC D' 81 130 (.slice bz l'.length c') l'.length (l'.flatMap aw.lay)/\Bs=[[(a,iJ (.slice bz l'.length c') ae note room vG vS)],D',O,E])):=by
 have Nw:=cR k
 rw [decide_eq_true hk] at Nw
 have dq:=cR z
 rw [decide_eq_true oZ] at dq
 have ic:=re a l aO ae note room vG vS ad c D hD k
 have bJ:=fun size hs=>Bp a l aO ae note room vG vS ad c D O hD hO z size hs fe
 have bR:=fun o hv=>HW a l aO ae note room vG vS ad c D hD o hv (fun x hx=>by obtain ⟨⟨ad,c,hv, -⟩, -⟩:=hO x hx;rw [hv];rfl)
 have mM:=aO.jd
 refine st func53 fun w0 => ?_
 refine gc Nw ?_
 rintro _ _ ⟨rfl,rfl⟩
 refine gc dq ?_
 rintro _ _ ⟨rfl,rfl⟩
 refine gc ic ?_
 rintro _ _ ⟨⟨rfl,hn⟩ | ⟨i,o,rfl,hi,hn⟩,rfl⟩
 ·refine gz ?_
  exact fin (.inl ⟨hn,rfl,rfl⟩) aa
 ·have bh:=(List.getElem?_eq_some_iff.1 hi).1
  have rT:=mem_of_getElem? hi
  have Cj:=aO.sm o rT
  obtain ⟨⟨kK,cv,hv,Tb⟩,NI⟩:=hO o rT
  rw [hv] at NI
  obtain ⟨gD,off,rfl⟩:=hD.addr oZ
  have hs:=av aw.ak l i o hi
  have Hy:=o.ak
  have fJ:=o.bK (by rw [hv];rfl)
  have YR:o.lay[1]? = some (.slice kK o.b.length cv):=by rw [<-hv];exact aw.sU _
  refine gi ?_ ?_ <;> intro jN
  ·refine gz ?_
   exact fin (.inr ⟨o,hn,.inl ⟨by simpa using jN,rfl,rfl⟩⟩) aa
  ·have jN:k≠z:=by simpa using jN
   have hfz:=bJ o.b.length Cj
   refine ga ?_;intro xX
   refine gc hfz ?_
   rintro _ _ ⟨rfl,rfl⟩
   cases JX:cQ l z o.b.length room with
   | false =>
    refine gz ?_
    exact fin (.inr ⟨o,hn,.inr (.inl ⟨jN,JX,rfl,rfl⟩)⟩) aa
   | true =>
    have e0:o.lay.set 0 (.int .i64 z)=({ o with no:=z }:aw).lay:=aw.afh o z
    have Li:(o.lay.set 0 (.int .i64 z)).length=130:=by rw [length_set];exact Hy
    have hv2:(o.lay.set 0 (.int .i64 z))[1]? = some (.slice kK o.b.length cv):=by rw [e0,<-hv];exact aw.sU _
    refine gp ?_;intro Bx cE E hE
    have mh:({ o with no:=z,v:=.slice Bx o.b.length cE }:aw).ak=({ o with no:=z,v:=.slice Bx o.b.length cE }:aw).ak:=rfl
    have afo:=({ o with no:=z,v:=.slice Bx o.b.length cE }:aw).ak
    have e1:(o.lay.set 0 (.int .i64 z)).set 1 (.slice Bx o.b.length cE)=({ o with no:=z,v:=.slice Bx o.b.length cE }:aw).lay:=by rw [e0];exact aw.Vj _ _
    have hpj:=bR { o with no:=z,v:=.slice Bx o.b.length cE } rfl
    refine go ?_
    rw [e1]
    refine gc hpj ?_
    rintro _ _ ⟨bz,c',D',eJ,rfl⟩
    refine gz ?_
    refine fin (.inr ⟨_,hn,.inr (.inr ⟨jN,JX,rfl,.slice Bx o.b.length cE,_,bz,c',D',E,rfl,fun q hq => ?_,eJ,rfl⟩)⟩) aa
    rcases lE hq with rfl | hq
    ·exact ⟨⟨Bx,cE,rfl,hE.eH⟩,hE.rd.sub fun y hy=>mem_append_right _ hy⟩
    ·exact ⟨(hO q hq).1,(hO q hq).2.sub fun y hy=>mem_append_left _ hy⟩
end
end Go.Proofs.YtpabnmeponmonaaGreatDoor
namespace Go.Sl
section
variable {R:Rk}{l:List Ev}{i a:Nat}{b:eE}
theorem xv (R:Rk)(d i a:Nat)(g:Dk->Dk)(h:∀x:Dk,d=i->(g x).now[a]? = x.now[a]?):(((R.ds.modify d g)[i]?).bind fun (x:Dk)=>x.now[a]?)=(R.ds[i]?).bind fun (x:Dk)=>x.now[a]?:=by
 rw [getElem?_modify]
 cases hx:R.ds[i]? with
 | none=>simp
 | some x =>
  by_cases c:d=i
  ·simp [c,h x c]
  ·simp [c]
theorem MH (R:Rk)(d i a:Nat)(g:Dk->Dk)(h:∀x:Dk,d=i->(g x).bP[a]? = x.bP[a]?):(((R.ds.modify d g)[i]?).bind fun (x:Dk)=>x.bP[a]?)=(R.ds[i]?).bind fun (x:Dk)=>x.bP[a]?:=by
 rw [getElem?_modify]
 cases hx:R.ds[i]? with
 | none=>simp
 | some x =>
  by_cases c:d=i
  ·simp [c,h x c]
  ·simp [c]
theorem yC {d a':Nat}(h:¬(d=i/\a'=a)):(R.put d a' b).now i a=R.now i a:=by
 unfold Rk.now Rk.put
 exact congrArg (fun o:Option eE=>o.getD []) (xv R d i a _ fun x hd=>by
  simp only [getElem?_set]
  rw [if_neg (fun e=>h ⟨hd,e⟩)])
theorem Rj {d a':Nat}:(R.put d a' b).pl i a=R.pl i a:=by
 unfold Rk.pl Rk.put
 exact congrArg (fun o:Option eE=>o.getD []) (MH R d i a _ fun x _=>rfl)
theorem rq {e:Ev}(h:∀b,e ≠ .w i a b):(R.ev e).now i a=R.now i a:=by
 cases e with
 | w d a' b =>
  have hp:(R.put d a' b).now i a=R.now i a:=yC fun ⟨h1,h2⟩=>h b (by rw [h1,h2])
  simp only [Rk.ev]
  split
  ·rfl
  ·split
   ·exact hp
   ·rfl
   ·exact hp
 | f d =>
  simp only [Rk.ev]
  split
  ·rfl
  ·exact congrArg (fun o:Option eE=>o.getD []) (xv R d i a _ fun x _=>rfl)
theorem bI (h:∀b,Ev.w i a b∉l):(R.run l).now i a=R.now i a:=by
 induction l generalizing R with
 | nil=>rfl
 | cons e l ih =>
  rw [Rk.dC,ih fun b hb=>h b (mem_cons_of_mem _ hb)]
  exact rq fun b he=>h b (by rw [he];exact mem_cons_self ..)
theorem Fj (db:R.on)(ha:a<R.size i):(R.ev (.w i a b)).now i a=b:=by
 obtain ⟨h1,h2⟩:=db
 simp only [Rk.ev,h1,h2,Bool.false_eq_true,if_false]
 unfold Rk.now Rk.put
 unfold Rk.size at ha
 simp only [getElem?_modify_eq]
 cases hx:R.ds[i]? with
 | none=>rw [hx] at ha;simp at ha
 | some x =>
  rw [hx] at ha
  simp only [Option.map_some,Option.getD_some] at ha
  simp [ha]
theorem fP (db:R.on)(ha:a<R.size i)(h:∀b',Ev.w i a b'∈l->b'=b)(hm:Ev.w i a b∈l):(R.run l).now i a=b:=by
 induction l generalizing R with
 | nil=>cases hm
 | cons e l ih =>
  rw [Rk.dC]
  by_cases c:Ev.w i a b∈l
  ·exact ih (db.ev e) (by rw [Rk.ux];exact ha) (fun b' hb=>h b' (mem_cons_of_mem _ hb)) c
  ·rcases List.mem_cons.1 hm with rfl | hm
   ·rw [bI fun b' hb=>c (by rw [<-h b' (mem_cons_of_mem _ hb)];exact hb)]
    exact Fj db ha
   ·exact absurd hm c
theorem Vy {e:Ev}(h:∀d,e ≠ .f d):(R.ev e).pl i a=R.pl i a:=by
 cases e with
 | w d a' b =>
  simp only [Rk.ev]
  split
  ·rfl
  ·split
   ·exact Rj
   ·rfl
   ·exact Rj
 | f d=>exact absurd rfl (h d)
theorem By (h:∀d,Ev.f d∉l):(R.run l).pl i a=R.pl i a:=by
 induction l generalizing R with
 | nil=>rfl
 | cons e l ih =>
  rw [Rk.dC,ih fun b hb=>h b (mem_cons_of_mem _ hb)]
  exact Vy fun b he=>h b (by rw [he];exact mem_cons_self ..)
theorem lI (d:Nat):(R.ev (.f d)).now i a=R.now i a:=rq fun b h=>by cases h
theorem JY (db:R.on):(R.ev (.f i)).pl i a=R.now i a:=by
 obtain ⟨h1,h2⟩:=db
 simp only [Rk.ev,h2,Bool.false_eq_true,if_false]
 unfold Rk.pl Rk.now
 simp only [getElem?_modify_eq]
 cases hx:R.ds[i]? <;> simp
theorem Fk {d:Nat}(h:R.pl i a=R.now i a):(R.ev (.f d)).pl i a=R.now i a:=by
 simp only [Rk.ev]
 split
 ·exact h
 ·unfold Rk.pl Rk.now at *
  simp only [getElem?_modify]
  by_cases c:d=i
  ·subst c
   cases hx:R.ds[d]? <;> simp
  ·cases hx:R.ds[i]? with
   | none=>simp
   | some x=>rw [hx] at h;simpa [c] using h
theorem Rl (db:R.on):∀ {l:List Nat},i∈l->(R.run (l.map .f)).pl i a=R.now i a:=by
 intro l
 have dr:∀(l:List Nat) (R:Rk),R.pl i a=R.now i a->(R.run (l.map .f)).pl i a=R.now i a:=by
  intro l
  induction l with
  | nil=>exact fun R h=>h
  | cons d l ih =>
   intro R h
   rw [map_cons,Rk.dC,ih _ (by rw [Fk h,lI]),lI]
 induction l generalizing R with
 | nil=>intro h;cases h
 | cons d l ih =>
  intro h
  rw [map_cons,Rk.dC]
  by_cases c:d=i
  ·subst c
   rw [dr l _ (by rw [JY db,lI]),lI]
  ·rcases List.mem_cons.1 h with e | h
   ·exact absurd e.symm c
   ·rw [ih (db.ev _) h,lI]
theorem Bz:R.up0.now i a=R.pl i a:=by
 unfold Rk.now Rk.pl Rk.up0
 rw [getElem?_map]
 cases R.ds[i]? <;> rfl
end
theorem eZ {d i a:Nat}{b:eE}:∀ {l:List eE} {at_:Nat},Ev.w i a b∈gG d at_ l↔i=d/\∃j:Nat,l[j]? = some b/\a=at_+j
 | [],at_=>by simp [gG]
 | s :: l,at_=>by
  rw [gG,List.mem_cons,eZ (l:=l) (at_:=at_+1)]
  constructor
  ·rintro (h | ⟨rfl,j,h1,rfl⟩)
   ·cases h;exact ⟨rfl,0,rfl,rfl⟩
   ·exact ⟨rfl,j+1,h1,by omega⟩
  ·rintro ⟨rfl,j,h1,rfl⟩
   cases j with
   | zero=>left;simp at h1;rw [h1];rfl
   | succ j=>right;exact ⟨rfl,j,h1,by omega⟩
theorem lJ {d a e:Nat}:∀ {l:List eE},Ev.f e∉gG d a l
 | []=>by simp [gG]
 | s :: l=>by rw [gG,List.mem_cons];exact fun h=>h.elim (fun h=>by cases h) lJ
theorem dF {f:Nat->List Ev}{e:Ev}:∀ {m:Nat},e∈upto f m↔∃k,k<m/\e∈f k
 | 0=>by simp [upto]
 | m+1=>by
  rw [upto,List.mem_append,dF (m:=m)]
  constructor
  ·rintro (⟨k,h1,h2⟩ | h)
   ·exact ⟨k,by omega,h2⟩
   ·exact ⟨m,by omega,h⟩
  ·rintro ⟨k,h1,h2⟩
   rcases (show k<m\/k=m by omega) with c | rfl
   ·exact .inl ⟨k,c,h2⟩
   ·exact .inr h2
def pB (ls:List (Option Lv)):Prop:=∀k,k<ls.length->∃x,ls[k]? = some (some x)/\x.i=k
theorem j0.i {qs:List Nat}{ls:List (Option Lv)}(h:j0 qs ls):pB ls:=fun k hk=>by
 obtain ⟨a,q, -,h2⟩:=h k hk
 exact ⟨_,h2,rfl⟩
section
variable {ls:List (Option Lv)}(hI:pB ls)
include hI
theorem pB.at {k:Nat}{x:Lv}(h:ls[k]? = some (some x)):x.i=k/\k<ls.length:=by
 have hk:=(List.getElem?_eq_some_iff.1 h).1
 obtain ⟨y,h1,h2⟩:=hI k hk
 rw [h] at h1;cases h1
 exact ⟨h2,hk⟩
theorem BA:de ls=(List.range ls.length).map .f:=by
 have:∀m,m<=ls.length->upto (nz ls) m=(List.range m).map .f:=by
  intro m
  induction m with
  | zero=>intro _;rfl
  | succ m ih =>
   intro h
   obtain ⟨x,h1,h2⟩:=hI m oZ
   rw [upto,ih oZ,range_succ,map_append]
   congr 1
   unfold nz;rw [h1];simp [h2]
 exact this _ (Nat.le_refl _)
theorem gN {n:Nat}{u:Ub}{i a:Nat}{b:eE}:Ev.w i a b∈eA n ls u↔i<ls.length/\b=whole (jJ u)/\∃k,k<4/\a=ez n k+1+u.ae % 8:=by
 unfold eA
 rw [dF]
 constructor
 ·rintro ⟨k,hk,h⟩
  obtain ⟨x,h1,h2⟩:=hI k hk
  unfold Cz at h
  rw [h1] at h
  obtain ⟨q,hq,h⟩:=dF.1 h
  obtain ⟨rfl,j,hj,rfl⟩:=eZ.1 h
  obtain rfl:j=0:=by
   have:=(List.getElem?_eq_some_iff.1 hj).1
   simpa using this
  simp at hj
  exact ⟨by omega,hj.symm,q,hq,rfl⟩
 ·rintro ⟨hi,rfl,q,hq,rfl⟩
  obtain ⟨x,h1,h2⟩:=hI i hi
  refine ⟨i,hi, ?_⟩
  unfold Cz
  rw [h1]
  refine dF.2 ⟨q,hq,eZ.2 ⟨h2.symm,0,rfl,rfl⟩⟩
omit hI in
theorem Fl {n e:Nat}{u:Ub}:Ev.f e∉eA n ls u:=by
 unfold eA
 rw [dF]
 rintro ⟨k,hk,h⟩
 unfold Cz at h
 split at h
 ·obtain ⟨q,hq,h⟩:=dF.1 h
  exact lJ h
 ·cases h
theorem uH {k no:Nat}{s:List UInt8}{i a:Nat}{b:eE}:Ev.w i a b∈upto (j9 ls k no s) ls.length↔i<ls.length/\b=jw no s/\a=18+k:=by
 rw [dF]
 constructor
 ·rintro ⟨q,hq,h⟩
  obtain ⟨x,h1,h2⟩:=hI q hq
  unfold j9 at h
  rw [h1] at h
  obtain ⟨rfl,j,hj,rfl⟩:=eZ.1 h
  obtain rfl:j=0:=by
   have:=(List.getElem?_eq_some_iff.1 hj).1
   simpa using this
  simp at hj
  exact ⟨by omega,hj.symm,rfl⟩
 ·rintro ⟨hi,rfl,rfl⟩
  obtain ⟨x,h1,h2⟩:=hI i hi
  refine ⟨i,hi, ?_⟩
  unfold j9
  rw [h1]
  exact eZ.2 ⟨h2.symm,0,rfl,rfl⟩
omit hI in
theorem Rn {k no e m:Nat}{s:List UInt8}:Ev.f e∉upto (j9 ls k no s) m:=by
 rw [dF]
 rintro ⟨q,hq,h⟩
 unfold j9 at h
 split at h
 ·exact lJ h
 ·cases h
theorem uI {pr:Bool}{at_:Nat}{bs:List UInt8}(hw:pr=true->2<=ls.length){i a:Nat}{b:eE}:Ev.w i a b∈qf pr ls at_ bs ↔
  if pr then ∃j:Nat,(jy ls.length bs)[j]? = some b/\i=(at_+j) % ls.length/\a=274+(at_+j) / ls.length
  else i<ls.length/\∃j:Nat,(lr bs)[j]? = some b/\a=274+at_+j:=by
 cases pr with
 | false =>
  rw [qf,if_neg (by simp),if_neg (by simp),dF]
  constructor
  ·rintro ⟨k,hk,h⟩
   obtain ⟨x,h1,h2⟩:=hI k hk
   unfold oM at h
   rw [h1] at h
   obtain ⟨rfl,j,hj,rfl⟩:=eZ.1 h
   exact ⟨by omega,j,hj,rfl⟩
  ·rintro ⟨hi,j,hj,rfl⟩
   obtain ⟨x,h1,h2⟩:=hI i hi
   refine ⟨i,hi, ?_⟩
   unfold oM
   rw [h1]
   exact eZ.2 ⟨h2.symm,j,hj,rfl⟩
 | true =>
  have hw:=hw rfl
  rw [qf,if_pos rfl,if_pos rfl,dF]
  constructor
  ·rintro ⟨k,hk,h⟩
   obtain ⟨x,h1,h2⟩:=hI ((at_+k) % ls.length) (Nat.mod_lt _ oZ)
   unfold oN at h
   rw [h1] at h
   cases hs:(jy ls.length bs)[k]? with
   | none=>rw [hs] at h;cases h
   | some s =>
    rw [hs] at h
    obtain ⟨rfl,j,hj,rfl⟩:=eZ.1 h
    obtain rfl:j=0:=by
     have:=(List.getElem?_eq_some_iff.1 hj).1
     simpa using this
    simp at hj
    exact ⟨k,by rw [hs,hj],h2,rfl⟩
  ·rintro ⟨j,hj,rfl,rfl⟩
   obtain ⟨x,h1,h2⟩:=hI ((at_+j) % ls.length) (Nat.mod_lt _ oZ)
   refine ⟨j, ?_, ?_⟩
   ·have:=(List.getElem?_eq_some_iff.1 hj).1
    rwa [qV hw] at this
   ·unfold oN
    rw [h1,hj]
    exact eZ.2 ⟨h2.symm,0,rfl,rfl⟩
omit hI in
theorem Fm {pr:Bool}{at_ e:Nat}{bs:List UInt8}:Ev.f e∉qf pr ls at_ bs:=by
 unfold qf
 split
 ·rw [dF]
  rintro ⟨k, -,h⟩
  unfold oN at h
  split at h
  ·exact lJ h
  ·cases h
 ·rw [dF]
  rintro ⟨k, -,h⟩
  unfold oM at h
  split at h
  ·exact lJ h
  ·cases h
end
def CC {α:Type}(G:List α)(a:Nat)(b:List α):List α:=G.take a++b++G.drop (a+b.length)
theorem JZ {α:Type}{G b:List α}{a:Nat}(h:a+b.length<=G.length):(CC G a b).length=G.length:=by simp [CC];omega
theorem oz {α:Type}{G b:List α}{a:Nat}(h:a+b.length<=G.length)(x:Nat):(CC G a b)[x]? = if a<=x/\x<a+b.length then b[x - a]? else G[x]?:=by
 unfold CC
 have ht:(G.take a).length=a:=by rw [length_take];omega
 by_cases c1:x<a
 ·rw [if_neg oZ,append_assoc,getElem?_append_left oZ,getElem?_take,if_pos c1]
 ·by_cases c2:x<a+b.length
  ·rw [if_pos oZ,getElem?_append_left (by rw [length_append];omega),getElem?_append_right oZ,ht]
  ·rw [if_neg oZ,getElem?_append_right (by rw [length_append];omega),getElem?_drop]
   congr 1
   rw [length_append];omega
theorem Vz {α:Type}{G b:List α}{a c:Nat}(h:a+b.length<=G.length)(hc:c<=b.length):CC (CC G a (b.take c)) (a+c) (b.drop c)=CC G a b:=by
 have hl:(b.take c).length=c:=by rw [length_take];omega
 have h1:a+(b.take c).length<=G.length:=oZ
 apply ext_getElem?
 intro x
 rw [oz (by rw [JZ h1,length_drop];omega),oz h1,oz h,length_drop,hl]
 by_cases c1:a+c<=x/\x<a+c+(b.length - c)
 ·rw [if_pos c1,if_pos oZ,getElem?_drop]
  congr 1;omega
 ·rw [if_neg c1]
  by_cases c2:a<=x/\x<a+c
  ·rw [if_pos c2,if_pos oZ,getElem?_take,if_pos oZ]
  ·rw [if_neg c2,if_neg oZ]
def gS (G:List UInt8)(k:Nat):List UInt8:=(G.drop (k*88)).take 88
theorem Ro {G:List UInt8}(h:G.length=22528){k:Nat}(hk:k<256):(gS G k).length=88:=by simp [gS,h];omega
theorem BB (G:List UInt8)(k y:Nat):(gS G k)[y]? = if y<88 then G[k*88+y]? else none:=by
 unfold gS
 rw [getElem?_take,getElem?_drop]
theorem MI (s:List UInt8)(o:Nat)(b:List UInt8):pA s o b=CC s o (b.take (min b.length (88 - o))):=by
 unfold pA CC
 rw [length_take,Nat.min_eq_left (Nat.min_le_left _ _)]
theorem aaA {G b:List UInt8}{a k c:Nat}(hG:G.length=22528)(ha:a+b.length<=22528)(hc:c=min b.length (88 - a % 88))(hk:k<256):gS (CC G a (b.take c)) k=if k=a / 88 then pA (gS G k) (a % 88) b else gS G k:=by
 have hl:(b.take c).length=c:=by rw [length_take];omega
 have hm:=Nat.div_add_mod a 88
 have PW:=Nat.mod_lt a (show 0<88 by omega)
 have h1:a+(b.take c).length<=G.length:=oZ
 by_cases ck:k=a / 88
 ·rw [if_pos ck]
  apply ext_getElem?
  intro y
  rw [BB,oz h1,hl,MI,<-hc,oz (by rw [Ro hG hk,hl];omega),hl,BB]
  by_cases c1:y<88
  ·rw [if_pos c1,if_pos c1]
   by_cases c2:a % 88<=y/\y<a % 88+c
   ·rw [if_pos c2,if_pos oZ];congr 1;omega
   ·rw [if_neg c2,if_neg oZ]
  ·rw [if_neg c1,if_neg c1,if_neg oZ]
 ·rw [if_neg ck]
  apply ext_getElem?
  intro y
  rw [BB,oz h1,hl,BB]
  split
  ·rw [if_neg oZ]
  ·rfl
theorem aaB {G:List UInt8}(h:G.length=22528):(List.range 256).flatMap (gS G)=G:=by
 have:∀m,m<=256->(List.range m).flatMap (gS G)=G.take (m*88):=by
  intro m
  induction m with
  | zero=>intro _;rfl
  | succ m ih =>
   intro hm
   rw [range_succ,flatMap_append,ih oZ,flatMap_singleton,Nat.succ_mul,take_add];rfl
 rw [this 256 (Nat.le_refl _),take_of_length_le oZ]
theorem VB {no:Nat}{X:List UInt8}(hX:X.length=88)(gf:1<=no/\no<=281474976710656):ig (jw no X)=true/\fN (jw no X)=no/\Lr (jw no X)=X:=by
 have ju:(K4 (aH (cd no X))).length=32:=lY _
 have e1:(jw no X).drop 32=cd no X:=by unfold jw;rw [drop_left' ju]
 have e2:fN (jw no X)=no:=by
  unfold fN jw cd
  exact bN _ _ no ju oZ
 have e3:Lr (jw no X)=X:=by
  unfold Lr
  rw [show (40:Nat)=32+8 from rfl,<-drop_drop,e1]
  unfold cd
  rw [drop_left' (aj ..),take_of_length_le oZ]
 refine ⟨?_,e2,e3⟩
 unfold ig
 rw [e1,e2,Bool.and_eq_true]
 refine ⟨decide_eq_true ?_,decide_eq_true gf⟩
 unfold jw
 exact DZ (nY _) [] _ rfl
structure fB (R:Rk)(w no:Nat)(G:List UInt8):Prop where
 len:G.length=22528
 sec:∀k,k<256->∃s:eE,(∀i,i<w->R.now i (18+k)=s)/\((ig s=true/\fN s<no/\Lr s=gS G k)\/(ig s=false/\gS G k=replicate 88 0))
section
variable {ls:List (Option Lv)}(hI:pB ls){R:Rk}{no n:Nat}{G:List UInt8}
include hI
theorem fB.xp (h:fB R ls.length no G)(hw:1<=ls.length)(db:R.off=false){k:Nat}(hk:k<256):xp R ls k=gS G k:=by
 obtain ⟨s,h1,h2⟩:=h.sec k hk
 have key:∀j,j<=ls.length->rh R ls k j=if ig s=true/\0<j then (fN s,Lr s) else (0,replicate 88 0):=by
  intro j
  induction j with
  | zero=>intro _;rw [if_neg oZ];rfl
  | succ j ih =>
   intro hj
   obtain ⟨x,hx,uw⟩:=hI j oZ
   rw [xq hx,ih oZ,uw,h1 j oZ,xo]
   by_cases c:ig s=true
   ·have:=Bl c
    rw [if_pos (show ig s=true/\0<j+1 from ⟨c,by omega⟩)]
    by_cases c2:0<j
    ·rw [if_pos (show ig s=true/\0<j from ⟨c,c2⟩)];simp
    ·rw [if_neg (show ¬(ig s=true/\0<j) from fun h=>c2 h.2),c,decide_eq_true (show 0<fN s by omega)];rfl
   ·simp only [c,false_and,if_false,Bool.false_and,Bool.false_eq_true]
 unfold Go.Sl.xp
 rw [db,if_neg (by simp),key _ (Nat.le_refl _)]
 rcases h2 with ⟨a,b,c⟩ | ⟨a,b⟩
 ·rw [if_pos ⟨a,by omega⟩];exact c
 ·rw [if_neg (by rw [a];simp)];exact b.symm
theorem fB.all (h:fB R ls.length no G)(hw:1<=ls.length)(db:R.off=false):bp R ls=G:=by
 have e:bp R ls=(List.range 256).flatMap (gS G):=by
  unfold bp
  have:∀m,m<=256->(List.range m).flatMap (Go.Sl.xp R ls)=(List.range m).flatMap (gS G):=by
   intro m
   induction m with
   | zero=>intro _;rfl
   | succ m ih=>intro hm;rw [range_succ,flatMap_append,flatMap_append,ih oZ,flatMap_singleton,flatMap_singleton,h.xp hI hw db oZ]
  exact this _ (Nat.le_refl _)
 rw [e,aaB h.len]
structure J0 (R R':Rk):Prop where
 on:R'.on
 now:∀i a,(a<18\/274<=a)->R'.now i a=R.now i a
 pl:∀i a,R'.pl i a=R.pl i a
 size:∀i,R'.size i=R.size i
 live:∀i,R'.live i↔R.live i
theorem VC (hw:1<=ls.length/\ls.length<=5):∀(m:Nat) (R:Rk) (no:Nat) (G:List UInt8) (a:Nat) (b:List UInt8),R.on->(∀i,i<ls.length->324<=R.size i)->fB R ls.length no G->a+b.length<=22528->b.length<=m->1<=no->no+m<=281474976710656 ->
  J0 R (dG ls m R no a b).1/\fB (dG ls m R no a b).1 ls.length (dG ls m R no a b).2 (CC G a b)/\no<=(dG ls m R no a b).2/\(dG ls m R no a b).2<=no+m/\(dG ls m R no a b).1.ws.length<=R.ws.length+5*m:=by
 have h0:∀(R:Rk) (no:Nat) (G:List UInt8) (a:Nat) (m:Nat),R.on->fB R ls.length no G->J0 R R/\fB R ls.length no (CC G a [])/\no<=no/\no<=no+m/\R.ws.length<=R.ws.length+5*m:=fun R no G a m db hG=>by
  have e:CC G a []=G:=by simp [CC]
  rw [e]
  exact ⟨⟨db,fun _ _ _=>rfl,fun _ _=>rfl,fun _=>rfl,fun _=>Iff.rfl⟩,hG,Nat.le_refl _,by omega,by omega⟩
 intro m
 induction m with
 | zero =>
  intro R no G a b db bu hG ha hb h1 h2
  obtain rfl:=eq_nil_of_length_eq_zero (show b.length=0 by omega)
  exact h0 R no G a 0 db hG
 | succ m ih =>
  intro R no G a b db bu hG ha hb h1 h2
  unfold dG
  by_cases XW:b=[]
  ·subst XW
   rw [if_pos rfl]
   exact h0 R no G a _ db hG
  ·rw [if_neg XW]
   have NH:0<b.length:=length_pos_iff.2 XW
   have hk:a / 88<256:=oZ
   have PW:=Nat.mod_lt a (show 0<88 by omega)
   rw [hG.xp hI hw.1 db.2 hk]
   obtain ⟨c,hc⟩:∃c,c=min b.length (88 - a % 88):=⟨_,rfl⟩
   obtain ⟨X,hX⟩:∃X,X=pA (gS G (a / 88)) (a % 88) b:=⟨_,rfl⟩
   have hXl:X.length=88:=by rw [hX];exact zA (Ro hG.len hk) PW
   obtain ⟨R',NJ⟩:∃R',R'=R.run (upto (j9 ls (a / 88) no X) ls.length):=⟨_,rfl⟩
   rw [<-hX,<-hc,<-NJ]
   have aaC:R'.on:=by rw [NJ];exact db.run _
   simp only [aaC.2,Bool.false_eq_true,if_false]
   have rS:(b.take c).length=c:=by rw [length_take];omega
   have ED:J0 R R':=⟨aaC,fun i x hx=>by rw [NJ];exact bI fun s hs=>by have:=(uH hI).1 hs;omega,fun i x=>by rw [NJ];exact By fun d=>Rn,fun i=>by rw [NJ,Rk.bH],fun i=>by rw [NJ];exact Rk.di ..⟩
   have afv:fB R' ls.length (no+1) (CC G a (b.take c)):=by
    refine ⟨by rw [JZ (by rw [rS,hG.len];omega),hG.len],fun k Ti => ?_⟩
    rw [aaA hG.len ha hc Ti]
    by_cases ck:k=a / 88
    ·subst ck
     obtain ⟨g1,g2,g3⟩:=VB hXl (no:=no) ⟨h1,by omega⟩
     refine ⟨jw no X,fun i hi => ?_,.inl ⟨g1,by omega,by rw [if_pos rfl,g3,hX]⟩⟩
     rw [NJ]
     exact fP db (by have:=bu i hi;omega) (fun b' Ks=>((uH hI).1 Ks).2.1) ((uH hI).2 ⟨hi,rfl,rfl⟩)
    ·obtain ⟨s,g1,g2⟩:=hG.sec k Ti
     rw [if_neg ck]
     refine ⟨s,fun i hi => ?_, ?_⟩
     ·rw [NJ,bI fun s hs=>by have:=(uH hI).1 hs;omega]
      exact g1 i hi
     ·rcases g2 with ⟨a1,a2,a3⟩ | g2
      ·exact .inl ⟨a1,by omega,a3⟩
      ·exact .inr g2
   have sM:R'.ws.length<=R.ws.length+5:=by
    have e1:=Rk.eS R (upto (j9 ls (a / 88) no X) ls.length)
    have e2:=bY (f:=j9 ls (a / 88) no X) (c:=1) (Fa ls _ _ _) ls.length
    rw [<-NJ] at e1
    omega
   have ny:(b.drop c).length=b.length - c:=length_drop ..
   obtain ⟨i1,i2,i3,i4,i5⟩:=ih R' (no+1) (CC G a (b.take c)) (a+c) (b.drop c) aaC (fun i hi=>by rw [ED.size];exact bu i hi) afv oZ oZ oZ oZ
   rw [Vz (by rw [hG.len];omega) oZ] at i2
   refine ⟨⟨i1.on,fun i x hx=>by rw [i1.now i x hx,ED.now i x hx],fun i x=>by rw [i1.pl,ED.pl],fun i=>by rw [i1.size,ED.size],fun i=>(i1.live i).trans (ED.live i)⟩,i2,by omega,by omega,by omega⟩
end
def aw.nv (o:aw):aw:={ o with v:=.int .i64 0 }
end Go.Sl
namespace Go.Proofs.YtpabnmeponmonaaGreatDoor
section
variable (a:Nat)(vL:Value)(ae note room:Nat)(G:List UInt8)(hGl:G.length=22528)(fg:Option Addr)(cG:Nat)(DG:Chunk)(hG:aC DG 5 1 (.slice fg 22528 cG) 22528 (au G))(vS:Value)
include hG
include hGl in
end
theorem VE (room:Nat):Ct 19 [.int .i64 room] [] fun u Bs=>∃a g1 g2,u=ptr a/\Bs=[[(a,iJ (.slice none 0 0) 1 0 room (.slice (some ⟨g1,0,none⟩) 22528 22528) (.slice (some ⟨g2,0,none⟩) 22528 22528))],[(g1,ax (au (replicate 22528 0)) 5)],[(g2,ax (au (replicate 22528 0)) 5)]]:=by
 refine st func19 fun w0 => ?_
 refine gdo (aB.cons (0,0) (aB.fork 1 (aB.yh [(2,1),(3,0),(4,3),(5,2)]) 2 (aB.yh [(1,1),(3,0),(4,3),(5,2)]))) ?_
 refine gk ?_ ?_
 case' refine_1 =>
  refine gm ?_;intro g1
  refine gm ?_;intro g2
 case' refine_2 =>
  refine gm ?_;intro g2
  refine gm ?_;intro g1
 all_goals
  rw [PU 22528]
  refine ga ?_;intro a
  refine gz ?_
  exact fin ⟨a,g1,g2,rfl,rfl⟩ aa
theorem Fo (a:Nat)(l:List aw)(aO:kN l)(ae note room:Nat)(G S:List UInt8)(fg:Option Addr)(cG:Nat)(DG:Chunk)(hG:Rd DG 1 (.slice fg 22528 cG) 22528 (au G))(dy:Option Addr)(cS:Nat)(DS:Chunk)(hS:Rd DS 1 (.slice dy 22528 cS) 22528 (au S))(ad:Option Addr)(c:Nat)(D O:Chunk)(hD:Rd D 130 (.slice ad l.length c) l.length (l.flatMap aw.lay))(hO:HL O l) :
  Ct 13 [ptr a] [[(a,iJ (.slice ad l.length c) ae note room (.slice fg 22528 cG) (.slice dy 22528 cS))],D,O,DG,DS] fun u Bs=>∃a' l' bz c' D' E ru J1 NK rv J2 NM,u=ptr a'/\l'.map aw.nv=l.map aw.nv/\aC D' 81 130 (.slice bz l'.length c') l'.length (l'.flatMap aw.lay)/\HL E l'/\aC NK 5 1 (.slice ru 22528 J1) 22528 (au G)/\aC NM 5 1 (.slice rv 22528 J2) 22528 (au S) /\
   Bs=[[(a',iJ (.slice bz l'.length c') ae note room (.slice ru 22528 J1) (.slice rv 22528 J2))],D',E,NK,NM,[(a,iJ (.slice ad l.length c) ae note room (.slice fg 22528 cG) (.slice dy 22528 cS))],D,O,DG,DS]:=by
 have mM:=aO.jd
 refine st func13 fun w0 => ?_
 refine gd [0,4,8,12,16,20,24,28,32,36,40,44,48,52,56,60,68,72,76,80,65,85,88,95,98] ?_
 refine gp ?_;intro ru J1 NK zp
 refine gp ?_;intro rv J2 NM uj
 refine ga ?_;intro a'
 refine gl [0,3] (fun ((i,_):Nat×List aw×Option Addr×Nat×Chunk×Chunk)=>[(4,.int .i64 i)]) (fun (_,L,bz,c',D',E)=>[[(a',iJ (.slice bz L.length c') ae note room (.slice ru 22528 J1) (.slice rv 22528 J2))],D',E]) (fun (i,L,bz,c',D',E)=>i<=l.length/\L.length=i/\L.map aw.nv=(l.take i).map aw.nv/\aC D' 81 130 (.slice bz L.length c') L.length (L.flatMap aw.lay)/\HL E L) (fun (i,_)=>l.length - i) (0,[],none,0,[],[]) ⟨by omega,rfl,rfl,aC.nil _ _,fun _ h=>by cases h⟩ ?_
 rintro ⟨i,L,bz,c',D',E⟩ ⟨hi,hL,hLm,eJ,hE⟩
 refine gi ?_ ?_ <;> intro br
 ·have bh:i<l.length:=oZ
  obtain ⟨o,ho⟩:∃o,l[i]? = some o:=⟨_,getElem?_eq_getElem bh⟩
  have rT:=mem_of_getElem? ho
  have Cj:=aO.sm o rT
  obtain ⟨⟨kK,cv,hv,Tb⟩,NI⟩:=hO o rT
  rw [hv] at NI
  obtain ⟨gD,off,rfl⟩:=hD.addr oZ
  have hs:=av aw.ak l i o ho
  have Hy:=o.ak
  have fJ:=o.bK (by rw [hv];rfl)
  have YR:o.lay[1]? = some (.slice kK o.b.length cv):=by rw [<-hv];exact aw.sU _
  refine ga ?_;intro b5
  refine gp ?_;intro Bx cE F hF
  have e1:o.lay.set 1 (.slice Bx o.b.length cE)=({ o with v:=.slice Bx o.b.length cE }:aw).lay:=aw.Vj _ _
  have Nu:=({ o with v:=.slice Bx o.b.length cE }:aw).ak
  have gf:=({ o with v:=.slice Bx o.b.length cE }:aw).bK rfl
  refine go ?_
  rw [e1]
  refine rQ [[(b5,ax ({ o with v:=.slice Bx o.b.length cE }:aw).lay 81)],[(a',iJ (.slice bz L.length c') ae note room (.slice ru 22528 J1) (.slice rv 22528 J2))]] [0,4,8,12,16,20,25,29,32,36,43] ?_
  refine gm ?_;intro b56
  have ahd:Rd [(b56,ax ({ o with v:=.slice Bx o.b.length cE }:aw).lay 81)] 130 (.slice (some ⟨b56,0,none⟩) 1 1) 1 ({ o with v:=.slice Bx o.b.length cE }:aw).lay:=ay (by rw [Nu]) gf (by simp) _
  refine gp ?_;intro ad2 c2 D2 Dy
  have jK:(L++[{ o with v:=.slice Bx o.b.length cE }]).length=L.length+1:=by simp
  refine gn ?_
  refine ⟨(i+1,L++[{ o with v:=.slice Bx o.b.length cE }],ad2,c2,D2,E++F),⟨by omega,by rw [jK,hL], ?_,by rw [jK];simpa using Dy,fun q hq => ?_⟩,sOZ,ar,_,by simp only [jK];exact aa⟩
  ·rw [aK l bh,map_append,map_append,hLm]
   have e:l[i]=o:=(List.getElem?_eq_some_iff.1 ho).2
   rw [e];rfl
  ·rcases List.mem_append.1 hq with hq | hq
   ·exact ⟨(hE q hq).1,(hE q hq).2.sub fun y hy=>mem_append_left _ hy⟩
   ·rw [mem_singleton.1 hq]
    exact ⟨⟨Bx,cE,rfl,hF.eH⟩,hF.rd.sub fun y hy=>mem_append_right _ hy⟩
 ·obtain rfl:i=l.length:=oZ
  rw [take_length] at hLm
  refine gz ?_
  exact fin ⟨a',L,bz,c',D',E,ru,J1,NK,rv,J2,NM,rfl,hLm,eJ,hE,zp,uj,rfl⟩ aa
abbrev ye (p:Nat)(vQ:Value)(s a d:Nat):Obj:=ax [ptr p,vQ,ptr s,ptr a,ptr d] 43
end Go.Proofs.YtpabnmeponmonaaGreatDoor
namespace Go.Sl
def rY (n:Nat):Nat->Rk
 | 0=>⟨[],[],none,false⟩
 | k+1=>(rY n k).add n
end Go.Sl
namespace Go.Proofs.YtpabnmeponmonaaGreatDoor
theorem VG (tp:Tp)(pr:Bool)(n w:Nat)(ok:dj tp pr n w)(dq:n<=2048)(K O:Chunk)(Jw:Option Addr)(co:Nat)(hO:aC O 23 3 (.slice Jw 1 co) 1 tp.lay)
  (P1:Nat->List Nat->Nat->Chunk->Chunk->Prop) (hcr:∀p qs C Q j7 cq,qs.length=w->bj p qs (rY n w) C->Rd Q 1 (.slice j7 w cq) w (qs.map ptr)->w<=cq->Ct 16 [.int .u64 11,.slice Jw 1 co,.slice j7 w cq] [K,C,O,Q] fun u Bs=>∃t V C',u = .tuple #[ptr t,.int .i64 0]/\P1 p qs t V C'/\Bs=[V,K,C',O,Q])
  (gf:bD pr w n / aL pr w 1024 / 4<10->∀p qs t V C',P1 p qs t V C'->Ct 17 [ptr t] [K,C',V] fun v Bs=>v = .tuple #[.pointer none,.int .i64 3]/\Bs=[K,C',V])
  (P2:Nat->List Nat->Nat->Chunk->Chunk->Chunk->Chunk->Chunk->Chunk->Prop) (hnw:10<=bD pr w n / aL pr w 1024 / 4->∀p qs t V C',P1 p qs t V C'->Ct 17 [ptr t] [K,C',V] fun v Bs=>∃s b0 b1 b2 b3 b4 b5,v = .tuple #[ptr s,.int .i64 0]/\P2 p qs s b0 b1 b2 b3 b4 b5/\Bs=[b0,K,b1,b2,b3,b4,b5]) :
  Ct 5 [.slice Jw 1 co] [K,O] fun u Bs=>(bD pr w n / aL pr w 1024 / 4<10/\(∃x,u = .tuple #[x,.bool false,.bool true])/\Bs=[K,O]) \/
   10<=bD pr w n / aL pr w 1024 / 4/\∃rg p qs j7 cq Q s b0 b1 b2 b3 b4 b5 a fg cG DG dy cS DS d bz c' D' E ru J1 NK rv J2 NM,u = .tuple #[ptr rg,.bool true,.bool true]/\qs.length=w/\aC Q 56 1 (.slice j7 w cq) w (qs.map ptr)/\P2 p qs s b0 b1 b2 b3 b4 b5 /\
    aC DG 5 1 (.slice fg 22528 cG) 22528 (au (replicate 22528 0))/\aC DS 5 1 (.slice dy 22528 cS) 22528 (au (replicate 22528 0))/\aC D' 81 130 (.slice bz 0 c') 0 []/\aC NK 5 1 (.slice ru 22528 J1) 22528 (au (replicate 22528 0))/\aC NM 5 1 (.slice rv 22528 J2) 22528 (au (replicate 22528 0)) /\
    Bs=[[(rg,ye p (.slice j7 w cq) s a d)],b0,K,b1,b2,b3,b4,b5,O,Q,[(a,iJ (.slice none 0 0) 1 0 (bD pr w n / aL pr w 1024 / 4 - 10) (.slice fg 22528 cG) (.slice dy 22528 cS))],DG,DS,[(d,iJ (.slice bz 0 c') 1 0 (bD pr w n / aL pr w 1024 / 4 - 10) (.slice ru 22528 J1) (.slice rv 22528 J2))],D',E,NK,NM]:=by
 have hOr:=hO.rd
 have hrm:=Vu tp pr n w ok dq O Jw co hOr
 have hw:=ok.hw
 have hn:=ok.hn
 have hz:=ir pr ok.hw ⟨ok.hn.1,dq⟩
 have hq2:bD pr w n / aL pr w 1024 / 4<=10240:=Nat.le_trans (Nat.div_le_self _ _) (Nat.le_trans (Nat.div_le_self _ _) hz.2)
 generalize bD pr w n / aL pr w 1024 / 4=q at *
 obtain ⟨gO,oO,rfl⟩:=hOr.addr oZ
 have hs:Sub (0*3) tp.lay tp.lay:=av Tp.ak [tp] 0 tp rfl
 have vV:=hs 1 (.int .i64 (w:Nat)) (by rw [ok.ht];rfl)
 have lV:=hs 2 (.int .i64 (n:Nat)) (by rw [ok.ht];rfl)
 refine st func5 fun w0 => ?_
 refine gc HD ?_
 rintro _ _ ⟨p,C,rfl,hC,rfl⟩
 refine ga ?_;intro rg
 refine gl [0,5] (fun ((i,_):Nat×List Nat×Value×Chunk×Chunk)=>[(6,.int .i64 i)]) (fun (_,_,vQ,Q,C)=>[[(rg,ax [ptr p,vQ,.pointer none,.pointer none,.pointer none] 43)],Q,C]) (fun (i,qs,vQ,Q,C)=>i<=1/\qs.length=i*w/\aC Q 56 1 vQ qs.length (qs.map ptr)/\bj p qs (rY n qs.length) C) (fun (i,_)=>1 - i) (0,[],.slice none 0 0,[],C) ⟨by omega,by simp,aC.nil _ _,hC⟩ ?_
 clear hC
 rintro ⟨i,qs,vQ,Q,C⟩ ⟨hi,yc,hQ,hC⟩
 refine gi ?_ ?_ <;> intro br
 ·obtain rfl:i=0:=oZ
  refine gl [0,5,6] (fun ((i,_):Nat×List Nat×Value×Chunk×Chunk)=>[(7,.int .i64 i)]) (fun (_,_,vQ,Q,C)=>[[(rg,ax [ptr p,vQ,.pointer none,.pointer none,.pointer none] 43)],Q,C]) (fun (i,qs,vQ,Q,C)=>i<=w/\qs.length=i/\aC Q 56 1 vQ qs.length (qs.map ptr)/\bj p qs (rY n qs.length) C) (fun (i,_)=>w - i) (0,qs,vQ,Q,C) ⟨by omega,by omega,hQ,hC⟩ ?_
  clear hQ hC yc
  rintro ⟨k,qs,vQ,Q,C⟩ ⟨hk,rfl,hQ,hC⟩
  refine gg ?_ ?_ <;> intro qI
  ·refine gd [0,4,8,12,16,20,24,28,32,39,42,46,50,54,58] ?_
   refine gc (aak p qs _ C hC n oZ oZ) ?_
   rintro _ _ ⟨q',C',rfl,bF,rfl⟩
   refine gm ?_;intro b69
   refine gp ?_;intro ia c3 Q3 hQ3
   refine gn ?_
   exact ⟨(qs.length+1,qs++[q'],_,Q3,C'),⟨by omega,by simp,by simpa using hQ3,by rw [length_append];exact bF⟩,sOZ,ar,_,aa⟩
  ·obtain rfl:qs.length=w:=oZ
   refine gn ?_
   exact ⟨(1,qs,vQ,Q,C),⟨by omega,by omega,hQ,hC⟩,sOZ,ar,_,aa⟩
 ·obtain rfl:i=1:=oZ
  rw [Nat.one_mul] at yc
  subst yc
  obtain ⟨j7,cq,rfl⟩:=hQ.slice
  refine gc (hcr p qs C Q j7 cq rfl hC hQ.rd (by have:=hQ.eH;omega)) ?_
  rintro _ _ ⟨t,V,C',rfl,h1,rfl⟩
  by_cases hlq:q<10
  ·refine gc (gf hlq p qs t V C' h1) ?_
   rintro _ _ ⟨rfl,rfl⟩
   refine gc hrm ?_
   rintro _ _ ⟨rfl,rfl⟩
   refine gz ?_
   exact fin (.inl ⟨hlq,⟨_,rfl⟩,rfl⟩) aa
  ·have hlq:10<=q:=oZ
   rw [show (q:Int) - 10=((q - 10:Nat):Int) by omega] at hrm
   refine gc (hnw hlq p qs t V C' h1) ?_
   rintro _ _ ⟨s,b0,b1,b2,b3,b4,b5,rfl,h2,rfl⟩
   refine gc hrm ?_
   rintro _ _ ⟨rfl,rfl⟩
   refine gc (VE (q - 10)) ?_
   rintro _ _ ⟨a,g1,g2,rfl,rfl⟩
   have hb:=fun g=>aau (g:=g) (T:=5) (b:=replicate 22528 0) (length_replicate ..) oZ
   refine gc (Fo a [] ⟨by simp,by simp,by simp⟩ 1 0 (q - 10) (replicate 22528 0) (replicate 22528 0) (some ⟨g1,0,none⟩) 22528 _ (hb g1).rd (some ⟨g2,0,none⟩) 22528 _ (hb g2).rd none 0 [] [] (Rd.nil [] 130) (by simp [HL])) ?_
   rintro _ _ ⟨d,l',bz,c',D',E,ru,J1,NK,rv,J2,NM,rfl,hl,eJ, -,zp,uj,rfl⟩
   obtain rfl:l'=[]:=by cases l' with
    | nil=>rfl
    | cons x r=>simp at hl
   refine gz ?_
   exact fin (.inr ⟨hlq,rg,p,qs,j7,cq,Q,s,b0,b1,b2,b3,b4,b5,a,_,_,_,_,_,_,d,bz,c',D',E,ru,J1,NK,rv,J2,NM,rfl,rfl,hQ,h2,hb g1,hb g2,eJ,zp,uj,rfl⟩) aa
theorem Ct.on {g:FuncId}{args:List Value}{As Ls:List Chunk}{Rs:Chunk}{P P':Value->List Chunk->Prop}(h:Ct g args As P)(s:Ls.flatten.Perm (As.flatten++Rs))(k:∀u Bs,P u Bs->∃Cs Ds,P' u Cs/\(Bs.flatten++Rs).Perm (Cs.flatten++Ds)):Ct g args Ls P':=fun w H=>by
 have H1:Own w (As.flatten++Rs):=Own.perm H s
 refine (h w H1.left).mono fun u w' ⟨Bs,hp,ht⟩ => ?_
 obtain ⟨Cs,Ds,h1,h2⟩:=k u Bs hp
 exact ⟨Cs,h1,Tr.drop (C:=Ds) (Tr.perm (Tr.frame ht Rs) s h2)⟩
abbrev uJ (o k z x y:Int)(nt:Nat)(b:Value):Value:=.agg #[.int .i64 o,.int .i64 k,.int .i64 z,.int .i64 x,.int .i64 y,.int .u64 nt,b]
abbrev opO (o k z x y:Int)(nt:Nat)(b:Value):Obj:=ax [.int .i64 o,.int .i64 k,.int .i64 z,.int .i64 x,.int .i64 y,.int .u64 nt,b] 36
section
variable (rg p s a d:Nat)(vQ:Value)(S M A:Chunk)(k z x y e:Int)(nt:Nat)(b:Value)(PS PM:Chunk->Prop)
theorem nK (hs:Ct 50 [ptr s,.int .i64 k,.int .i64 y] [S] fun u Bs=>u = .int .i64 e/\∃S',PS S'/\Bs=[S'])(hd:Ct 51 [ptr a,.int .i64 k,.int .i64 y] [M] fun u Bs=>u = .int .i64 e/\∃M',PM M'/\Bs=[M']) :
  Ct 21 [ptr rg,uJ 1 k z x y nt b] [[(rg,ye p vQ s a d)],S,M] fun u Bs=>u = .bool true/\∃S' M',PS S'/\PM M'/\Bs=[[(rg,ye p vQ s a d)],S',M']:=by
 refine st func21 fun w0 => ?_
 refine ga ?_;intro b3
 refine rQ [[(rg,ye p vQ s a d)],[(b3,opO 1 k z x y nt b)]] [0,4,8,12,16,20,24,28,36,40,44,48,52,56,60,64,33,71,74,78] ?_
 refine gc hs ?_
 rintro _ _ ⟨rfl,S',h1,rfl⟩
 refine gc hd ?_
 rintro _ _ ⟨rfl,M',h2,rfl⟩
 refine gz ?_
 exact fin ⟨by simp,S',M',h1,h2,rfl⟩ aa
theorem oA (hs:Ct 52 [ptr s,.int .i64 k,.int .i64 z] [S] fun u Bs=>u = .int .i64 e/\∃S',PS S'/\Bs=[S'])(hd:Ct 53 [ptr a,.int .i64 k,.int .i64 z] [M] fun u Bs=>u = .int .i64 e/\∃M',PM M'/\Bs=[M']) :
  Ct 21 [ptr rg,uJ 2 k z x y nt b] [[(rg,ye p vQ s a d)],S,M] fun u Bs=>u = .bool true/\∃S' M',PS S'/\PM M'/\Bs=[[(rg,ye p vQ s a d)],S',M']:=by
 refine st func21 fun w0 => ?_
 refine ga ?_;intro b3
 refine rQ [[(rg,ye p vQ s a d)],[(b3,opO 2 k z x y nt b)]] [0,4,8,12,16,20,24,28,36,40,44,48,52,56,60,64,33,71,74,78] ?_
 refine gc hs ?_
 rintro _ _ ⟨rfl,S',h1,rfl⟩
 refine gc hd ?_
 rintro _ _ ⟨rfl,M',h2,rfl⟩
 refine gz ?_
 exact fin ⟨by simp,S',M',h1,h2,rfl⟩ aa
theorem BC (hs:Ct 54 [ptr s,.int .i64 k] [S] fun u Bs=>u = .int .i64 e/\∃S',PS S'/\Bs=[S'])(hd:Ct 55 [ptr a,.int .i64 k] [M] fun u Bs=>u = .int .i64 e/\∃M',PM M'/\Bs=[M']) :
  Ct 21 [ptr rg,uJ 3 k z x y nt b] [[(rg,ye p vQ s a d)],S,M] fun u Bs=>u = .bool true/\∃S' M',PS S'/\PM M'/\Bs=[[(rg,ye p vQ s a d)],S',M']:=by
 refine st func21 fun w0 => ?_
 refine ga ?_;intro b3
 refine rQ [[(rg,ye p vQ s a d)],[(b3,opO 3 k z x y nt b)]] [0,4,8,12,16,20,28,32,36,40,44,48,25,55,58,62] ?_
 refine gc hs ?_
 rintro _ _ ⟨rfl,S',h1,rfl⟩
 refine gc hd ?_
 rintro _ _ ⟨rfl,M',h2,rfl⟩
 refine gz ?_
 exact fin ⟨by simp,S',M',h1,h2,rfl⟩ aa
end
end Go.Proofs.YtpabnmeponmonaaGreatDoor
namespace Go.Sl
structure Rg where
 p:Nat
 vQ:Value
 s:Nat
 a:Nat
 d:Nat
structure ry where
 o:Int
 k:Int
 z:Int
 x:Int
 y:Int
 nt:Nat
 b:Value
end Go.Sl
namespace Go.Proofs.YtpabnmeponmonaaGreatDoor
abbrev ry.agg (o:ry):Value:=uJ o.o o.k o.z o.x o.y o.nt o.b
def ry.lay (o:ry):List Value:=[.int .i64 o.o,.int .i64 o.k,.int .i64 o.z,.int .i64 o.x,.int .i64 o.y,.int .u64 o.nt,o.b]
theorem ry.ak (o:ry):(ry.lay o).length=7:=rfl
abbrev Rg.ch (rg:Nat)(r:Rg):Chunk:=[(rg,ye r.p r.vQ r.s r.a r.d)]
section
variable (rg:Nat)(r:Rg)(X A:Chunk)(k z x y:Int)(nt:Nat)(b:Value)(Inv Mid:Rg->Chunk->Prop)
theorem MJ (o:Int)(h8:o≠8)(hc:Ct 21 [ptr rg,uJ o k z x y nt b] [Rg.ch rg r,X,A] fun u Bs=>u = .bool true/\∃r' X',Mid r' X'/\Bs=[Rg.ch rg r',X',A])
  (ha:∀r' X',Mid r' X'->Ct 22 [ptr rg,uJ o k z x y nt b] [Rg.ch rg r',X'] fun u Bs=>u = .bool true/\∃r' X',Inv r' X'/\Bs=[Rg.ch rg r',X']) :
  Ct 6 [ptr rg,uJ o k z x y nt b] [Rg.ch rg r,X,A] fun u Bs=>u = .bool true/\∃r' X',Inv r' X'/\Bs=[Rg.ch rg r',X',A]:=by
 refine st func6 fun w0 => ?_
 refine ga ?_;intro b3
 refine gc hc ?_
 rintro _ _ ⟨rfl,r',X',h,rfl⟩
 refine gc (ha r' X' h) ?_
 rintro _ _ ⟨rfl,r2,X2,h2,rfl⟩
 refine gz ?_
 exact fin ⟨rfl,r2,X2,h2,rfl⟩ aa
end
end Go.Proofs.YtpabnmeponmonaaGreatDoor
namespace Go.Sl
structure PS where
 R:Rk
 x:Rm
 ks:List Nat
def j4 (pr:Bool)(ls:List (Option Lv))(n gt:Nat)(P:PS)(b:List UInt8)(P':PS)(pt:Pt):Prop :=
 (bx b=true/\P'=P/\pt=ai)\/(bx b=false/\∃k:Nat,k∉P.x.D/\(k+1:Int)*((aL pr ls.length 1024:Nat):Int)<=((bD pr ls.length n:Nat):Int)/\pt=Hm (k*aL pr ls.length 1024) gt b 2/\P'=⟨P.R.run (qf pr ls (k*aL pr ls.length 1024) b),P.x.take k,P.ks++[k]⟩)
inductive gQ (pr:Bool)(ls:List (Option Lv))(n gt:Nat)(P:PS):List (List UInt8)->PS->List Pt->Prop
 | nil:gQ pr ls n gt P [] P []
 | snoc {bs:List (List UInt8)} {P1 P2:PS} {ps:List Pt} {b:List UInt8} {pt:Pt}:gQ pr ls n gt P bs P1 ps->j4 pr ls n gt P1 b P2 pt->gQ pr ls n gt P (bs++[b]) P2 (ps++[pt])
theorem s7:∀ {l m:List Nat},l.Nodup->(∀x∈l,x∈m)->l.length<=m.length
 | [],_,_,_=>Nat.zero_le _
 | x :: r,m,hn,h=>by
  rw [nodup_cons] at hn
  have hx:=h x (mem_cons_self ..)
  have:=s7 (l:=r) (m:=m.erase x) hn.2 fun y hy=>(mem_erase_of_ne (by rintro rfl;exact hn.1 hy)).2 (h y (mem_cons_of_mem _ hy))
  rw [length_erase_of_mem hx] at this
  have h2:=length_pos_of_mem hx
  simp only [length_cons];omega
theorem H0 {D:List Nat}{z m:Nat}(h:D.length<z / m):∃k:Nat,k∉D/\(k+1:Int)*(m:Int)<=(z:Int):=by
 have:∃k,k<z / m/\k∉D:=by
  refine Classical.byContradiction fun hc => ?_
  have:=s7 (l:=List.range (z / m)) (m:=D) nodup_range fun x hx=>Classical.byContradiction fun Gj=>hc ⟨x,mem_range.1 hx,Gj⟩
  rw [length_range] at this;omega
 obtain ⟨k,h1,h2⟩:=this
 refine ⟨k,h2, ?_⟩
 have h3:(k+1)*m<=z:=Nat.le_trans (Nat.mul_le_mul_right m h1) (Nat.div_mul_le_self z m)
 have h4:(((k+1)*m:Nat):Int)<=z:=oZ
 rwa [Int.natCast_mul] at h4
theorem Rq {at_ gt:Nat}{b:List UInt8}(ha:at_<=40959)(hb:1<=b.length/\b.length<=1024)(hg:1<=gt/\gt<=281474976710656):(Hm at_ gt b 2).cJ/\(Hm at_ gt b 2).Ok/\fK (Hm at_ gt b 2)=0/\Hm at_ gt b 2≠ai:=by
 have hs:(jt 2 b).1=Pd b:=by simp [jt]
 obtain ⟨s1,s2,s3,s4⟩:=Uh b
 have hgd:(Hm at_ gt b 2).cJ:=by
  refine ⟨Int.le_refl _, ?_, ?_, ?_, ?_, ?_,hg.1,hg.2,.inr rfl⟩ <;> simp only [Hm] <;> omega
 have ey:Hm at_ gt b 2≠ai:=fun h=>by
  have:=congrArg Pt.bytes h
  simp only [Hm,ai] at this;omega
 refine ⟨hgd, ?_,by unfold fK;rw [if_neg ey,if_pos hgd],ey⟩
 unfold Hm
 rw [hs]
 constructor <;> simp only <;> omega
section
variable {qs:List Nat}{pr:Bool}{ls:List (Option Lv)}{n gt:Nat}{P P':PS}{b:List UInt8}{pt:Pt}{c:Nat}
end
end Go.Sl
namespace Go.Proofs.YtpabnmeponmonaaGreatDoor
section
variable (T:TypeId)(fr:Nat×Nat)(p:Nat)(qs:List Nat)(t pool:Nat)(tp:Tp)(pr:Bool)(n:Nat)(ls:List (Option Lv))(no:Nat)(V:Chunk)(hV:iZ t pool tp pr n ls no V)(ok:dj tp pr n ls.length)(dq:n<=2048)(hall:∀x∈ls,x≠none)
variable (s al:Nat)(ra rd ae note:Nat)(g gt:Nat)(eV:1<=gt/\gt<=281474976710656)
include hV ok dq hall eV
end
end Go.Proofs.YtpabnmeponmonaaGreatDoor
namespace Go.Sl
theorem Rr (pr:Bool){w n:Nat}(hw:1<=w/\w<=5)(hn:324<=n/\n<=2048):bD pr w n<=10240:=(ir pr hw hn).2
section
variable {qs:List Nat}{pr:Bool}{ls:List (Option Lv)}{n gt:Nat}{P P':PS}{b:List UInt8}{pt:Pt}{c:Nat}
theorem j4.pok (h:j4 pr ls n gt P b P' pt)(hz:bD pr ls.length n<=10240)(hb:b.length<=1024)(hg:1<=gt/\gt<=281474976710656):fK pt=0/\pt.Ok:=by
 rcases h with ⟨-, -,rfl⟩ | ⟨dP,k, -,hk,rfl, -⟩
 ·exact ⟨by simp [fK],dK⟩
 ·have Hc:1<=b.length:=by
   cases b with
   | nil=>cases dP
   | cons _ _=>simp
  rw [Int.add_mul,Int.one_mul,<-Int.natCast_mul] at hk
  obtain ⟨-,h2,h3, -⟩:=Rq (at_:=k*aL pr ls.length 1024) (gt:=gt) (b:=b) oZ ⟨Hc,hb⟩ hg
  exact ⟨h3,h2⟩
end
def kC (pr:Bool)(ls:List (Option Lv))(n gt:Nat)(P P':PS)(l idx:List Pt)(root:Pt):Prop :=
 (l=[]/\P'=P/\idx=[]/\root=ai)\/(l≠[]/\∃level P1,gQ pr ls n gt P (lh l) P1 level/\j4 pr ls n gt P1 (ei (fL level)) P' root/\idx=level++[root])
def yf (N:Nat):Nat:=if N=0 then 0 else dh N 16+1
theorem aaD (N:Nat):(dh N 16=0/\yf N=0)\/(1<=dh N 16/\yf N=dh N 16+1):=by
 unfold yf
 split
 ·subst N;exact .inl ⟨rfl,rfl⟩
 ·exact .inr ⟨by unfold dh;omega,rfl⟩
theorem Rt {M N:Nat}(h:M<=N):yf M<=yf N:=by
 unfold yf dh
 split <;> split <;> omega
theorem oB (l:List Pt):(lh l).length=dh l.length 16:=by rw [lh,length_map,dN]
theorem lK (b:List UInt8):(ei b).length<=b.length:=by unfold ei;split <;> simp
theorem nL {l:List Pt}:∀b∈lh l,b.length<=1024:=fun b hb=>by
 obtain ⟨g,hg,rfl⟩:=mem_map.1 hb
 have h1:=lK (fL g)
 have h2:=iP g
 obtain ⟨i,hi,rfl⟩:=getElem_of_mem hg
 rw [l5] at *
 rw [length_take] at h2
 omega
theorem gQ.len {pr:Bool}{ls:List (Option Lv)}{n gt:Nat}{P P':PS}{bs:List (List UInt8)}{ps:List Pt}(h:gQ pr ls n gt P bs P' ps):ps.length=bs.length:=by
 induction h with
 | nil=>rfl
 | snoc _ _ ih=>simp [ih]
theorem gQ.VH {pr:Bool}{ls:List (Option Lv)}{n gt:Nat}{P P':PS}{bs:List (List UInt8)}{ps:List Pt}(h:gQ pr ls n gt P bs P' ps)(hb:bs=[]):P'=P:=by
 cases h with
 | nil=>rfl
 | snoc _ _=>simp at hb
theorem MK {l:List Pt}(h1:1<=l.length)(h2:l.length<=16):lh l=[ei (fL l)]:=by
 have hn:dh l.length 16=1:=pJ oZ oZ
 unfold lh jV
 rw [hn]
 simp [la,take_of_length_le h2]
end Go.Sl
namespace Go.Proofs.YtpabnmeponmonaaGreatDoor
section
variable (T:TypeId)(fr:Nat×Nat)(p:Nat)(qs:List Nat)(t pool:Nat)(tp:Tp)(pr:Bool)(n:Nat)(ls:List (Option Lv))(no:Nat)(V:Chunk)(hV:iZ t pool tp pr n ls no V)(ok:dj tp pr n ls.length)(dq:n<=2048)(hall:∀x∈ls,x≠none)
variable (s al:Nat)(ra rd ae note:Nat)(g gt:Nat)(eV:1<=gt/\gt<=281474976710656)
include hV ok dq hall eV
end
end Go.Proofs.YtpabnmeponmonaaGreatDoor
namespace Go.Sl
def pT (l:List Pt)(k:Nat):List Pt:=l++replicate (k+1 - l.length) ai
theorem Fp (l:List Pt)(k:Nat):(pT l k).length=max l.length (k+1):=by simp [pT];omega
theorem ML {l:List Pt}{k:Nat}(h:l.length<=k):pT l k=pT (l++[ai]) k:=by
 unfold pT
 rw [length_append,append_assoc]
 congr 1
 rw [show k+1 - l.length=(k+1 - (l.length+[ai].length))+1 by simp;omega,replicate_succ];rfl
theorem MM {l:List Pt}{k:Nat}(h:k<l.length):pT l k=l:=by unfold pT;rw [show k+1 - l.length=0 by omega];simp
inductive Fq (pr:Bool)(ls:List (Option Lv))(n gt:Nat)(fresh:List (Int×List UInt8))(P:PS)(l0:List Pt):List Int->PS->List Pt->Prop
 | nil:Fq pr ls n gt fresh P l0 [] P l0
 | snoc {ks:List Int} {P1 P2:PS} {l1:List Pt} {k:Int} {b:List UInt8} {pt:Pt}:Fq pr ls n gt fresh P l0 ks P1 l1->aJ fresh k=some b->j4 pr ls n gt P1 b P2 pt->Fq pr ls n gt fresh P l0 (ks++[k]) P2 ((pT l1 k.toNat).set k.toNat pt)
theorem Ft (l:List Pt):∀u∈l.flatMap Pt.lay,u.oneCell'=true:=fun u hu=>by
 obtain ⟨x, -,hx⟩:=mem_flatMap.1 hu
 simp only [Pt.lay,List.mem_cons,not_mem_nil,or_false] at hx
 rcases hx with rfl | rfl | rfl | rfl | rfl | rfl | rfl | rfl | rfl <;> rfl
def nM (pr:Bool)(ls:List (Option Lv))(n gt:Nat)(P:PS)(o:Ob)(P':PS)(o':Ob):Prop :=
 ∃ks P1 l1 idx root,ks.Perm (o.fresh.map (·.1))/\ks.Pairwise (· <= ·)/\Fq pr ls n gt o.fresh P o.aA ks P1 l1/\kC pr ls n gt P1 P' l1 idx root/\o'={ o with root:=root,aA:=l1,index:=idx,fresh:=[],clean:=true }
section
variable {X:Cx}{f:Fx}{ops:List Oper}{k:Kt}{Ms Ls Rs:List Chunk}{κ:Nat}{r':aB}{e:Env}
structure EP {α:Type}(lay:α->List Value)(_y0:α)(_xs:List α)(_i:Nat)(s:Nat):Prop where
 h:∀a,(lay a).length=s
theorem WD.Ru {α:Type}{lay:α->List Value}{y0:α}{xs:List α}{vs r:List Value}{b i j s:Nat}{t T:TypeId}{x y:Operand}(hl:EP lay y0 xs i s)(hκ:dR κ=true)(hx:ev e x=some (.pointer (some ⟨b,j,none⟩)))(hy:ev e y=some (.agg vs.toArray))(hv:vs=lay y0)(hvl:vs.length=s)(h1:vs.all (·.oneCell')=true)(hT:X.T.Ok X.P)(hs:X.T.sz t=some s)(hp:Ls.Perm ([(b,ax (xs.flatMap lay++r) T)] :: Rs))(hi:i<xs.length)(hj:j=i*s)
  (hk:cZ κ Ms ([(b,ax ((xs.set i y0).flatMap lay++r) T)] :: Rs)) (g:WO X f ops k Ms r' e ([(b,ax ((xs.set i y0).flatMap lay++r) T)] :: Rs)):WD X f ops k Ms κ none (.store t x y) r' e Ls:=by
 subst hvl hj
 have hl:=hl.h
 have hlen:(xs.flatMap lay).length=xs.length*vs.length:=gA hl
 have hm:i*vs.length+vs.length<=xs.length*vs.length:=by
  have:=Nat.mul_le_mul_right vs.length (show i+1<=xs.length from hi)
  rwa [Nat.succ_mul] at this
 refine .Ak hκ hx hy h1 hT hs hp (by rw [length_append];omega) ?_ hk g
 rw [su _ _ _ (by rw [length_append];omega),CT hl y0 xs i hi,<-hv,take_append_of_le_length oZ,drop_append_of_le_length oZ,append_assoc,append_assoc,append_assoc]
end
end Go.Sl
namespace Go.Proofs.YtpabnmeponmonaaGreatDoor
theorem gse {G H:Prop}{α:Type}(lay:α->List Value)(y0:α)(xs:List α)(i:Nat)(s:Nat)(hs:∀a,(lay a).length=s)(k:H)(h:EP lay y0 xs i s->im H->G:=by
 intro hs kk;refine go ?_;refine WO.dec rfl ?_
 apply WD.Ru hs;exact rfl;exact rfl;exact rfl;exact rfl;exact rfl;exact rfl;exact aD;exact rfl;exact pick;exact om;exact om;exact keeps;exact kk.out):G:=h ⟨hs⟩ ⟨k⟩
section
variable (T:TypeId)(fr:Nat×Nat)(p:Nat)(qs:List Nat)(t pool:Nat)(tp:Tp)(pr:Bool)(n:Nat)(ls:List (Option Lv))(no:Nat)(V:Chunk)(hV:iZ t pool tp pr n ls no V)(ok:dj tp pr n ls.length)(dq:n<=2048)(hall:∀x∈ls,x≠none)
variable (s al:Nat)(ra rd ae note:Nat)(g gt:Nat)(eV:1<=gt/\gt<=281474976710656)
include hV ok dq hall eV
end
end Go.Proofs.YtpabnmeponmonaaGreatDoor
namespace Go.Sl
def pU (ls:List (Value×List Pt)):Nat:=(ls.flatMap (·.2)).length
structure acT (O:Chunk)(ls:List (Value×List Pt)):Prop where
 rd:∀x∈ls,Rd O 9 x.1 x.2.length (aR x.2)
 sl:∀x∈ls,∃ad c,x.1 = .slice ad x.2.length c
 jd:ls.length<=100
 sum:pU ls<=100000
theorem nN (l:List (Value×List Pt)){i:Nat}(hi:i<l.length):pU (l.take (i+1))=pU (l.take i)+l[i].2.length:=by
 rw [aK l hi];simp only [pU,flatMap_append,length_append,flatMap_cons,flatMap_nil,append_nil]
theorem rz (l:List (Value×List Pt))(i:Nat):pU (l.take i)<=pU l:=by
 conv=>rhs;rw [<-take_append_drop i l]
 simp only [pU,flatMap_append,length_append]
 omega
theorem aaE (x:Pt):(x.top==0&&(x.at_==0&&(x.bytes==0&&((x.bg:Int)==0&&(x.kind==0&&((x.a:Int)==0&&((x.b:Int)==0&&((x.c:Int)==0&&(x.d:Int)==0))))))))=decide (x=ai):=by
 cases x
 rw [Bool.eq_iff_iff]
 simp [ai]
def bL (l:List Pt):List Pt:=l.filter fun x=>decide (x≠ai)
theorem H9 {l:List Pt}{i:Nat}(hi:i<l.length):bL (l.take (i+1))=bL (l.take i)++if l[i]=ai then [] else [l[i]]:=by
 unfold bL
 rw [aK l hi,filter_append]
 by_cases h:l[i]=ai <;> simp [h]
end Go.Sl
namespace Go.Proofs.YtpabnmeponmonaaGreatDoor
theorem VI (m:Nat)(hm:m<=1000000):Ct 192 [.slice none 0 0,.int .i64 m] [] fun u Bs=>∃C,aC C 121 9 u 0 []/\Bs=[C]:=by
 rcases Nat.eq_zero_or_pos m with rfl | h0
 ·refine st func192 fun w0 => ?_
  refine gz ?_
  exact fin ⟨[],aC.nil _ _,rfl⟩ aa
 ·refine st func192 fun w0 => ?_
  refine gpz ?_;intro g c l hc ng hl
  refine gv ?_
  refine gz ?_
  exact fin ⟨_,vh ng hl,rfl⟩ aa
theorem MN (D O:Chunk)(vo:Value)(n:Nat)(ls:List (Value×List Pt))(hn:ls.length=n)(hD:Rd D 1 vo n (ls.map (·.1)))(hO:acT O ls) :
  Ct 130 [vo] [D,O] fun u Bs=>∃C,aC C 121 9 u (pU ls) (aR (ls.flatMap (·.2)))/\Bs=[C,D,O]:=by
 subst hn
 obtain ⟨ad,c,rfl⟩:=hD.slice
 have mM:=hO.jd
 have ae9:=hO.sum
 refine st func130 fun w0 => ?_
 refine gl [0,9,10] (fun j:Nat=>[(11,.int .i64 j),(3,.int .i64 (pU (ls.take j):Nat))]) (fun _=>[]) (fun j=>j<=ls.length) (fun j=>ls.length - j) 0 oZ ?_
 intro j hj
 refine gi ?_ ?_ <;> intro br
 ·have bh:j<ls.length:=oZ
  obtain ⟨b,off,rfl⟩:=hD.addr oZ
  obtain ⟨ad2,c2,UX⟩:=hO.sl ls[j] (getElem_mem bh)
  have bB:=nN ls bh
  have fS:=rz ls (j+1)
  have bX:(ls.map (·.1))[j]? = some (.slice ad2 ls[j].2.length c2):=by simp [bh,UX]
  have ha:IntKind.i64.wrap (((pU (ls.take j):Nat):Int)+(ls[j].2.length:Nat))=((pU (ls.take (j+1)):Nat):Int):=by rw [IntWalk.i64_in _ oZ];omega
  refine gn ?_
  exact ⟨j+1,by omega,by omega,ar,_,aa⟩
 ·obtain rfl:j=ls.length:=oZ
  rw [take_length]
  refine gc (VI (pU ls) oZ) ?_
  rintro v0 _ ⟨C,hC,rfl⟩
  refine gl [0,25,26] (fun ((j,v,_):Nat×Value×Chunk)=>[(27,.int .i64 j),(6,v)]) (fun (_,_,C)=>[C]) (fun (j,v,C)=>j<=ls.length/\aC C 121 9 v (pU (ls.take j)) ((ls.take j).flatMap fun x=>aR x.2)) (fun (j,_)=>ls.length - j) (0,v0,C) ⟨by omega,hC⟩ ?_
  rintro ⟨j,v,C⟩ ⟨hj,hC⟩
  obtain ⟨kK,cv,rfl⟩:=hC.slice
  refine gi ?_ ?_ <;> intro br
  ·have bh:j<ls.length:=oZ
   obtain ⟨b,off,rfl⟩:=hD.addr oZ
   obtain ⟨ad2,c2,UX⟩:=hO.sl ls[j] (getElem_mem bh)
   have bB:=nN ls bh
   have fS:=rz ls (j+1)
   have hft:=nE (fun x:Value×List Pt=>aR x.2) ls bh
   have qd:=hO.rd ls[j] (getElem_mem bh)
   rw [UX] at qd
   have bX:(ls.map (·.1))[j]? = some (.slice ad2 ls[j].2.length c2):=by simp [bh,UX]
   refine gp ?_;intro ia c3 C3 kP
   rw [<-bB]
   rw [<-bB,<-hft] at kP
   refine gn ?_
   exact ⟨(j+1,_,C3),⟨by omega,kP⟩,sOZ,ar,_,aa⟩
  ·obtain rfl:j=ls.length:=oZ
   rw [take_length] at hC ⊢
   refine gz ?_
   exact fin ⟨C,by rw [aR,flatMap_assoc];exact hC,rfl⟩ aa
theorem uK (a:Nat)(o:Ob)(jM:Option Addr)(cP:Nat)(DP:Chunk)(eb:Option Addr)(cI:Nat)(DX:Chunk)(r:Nat)(VJ:aC DP 121 9 (.slice jM o.aA.length cP) o.aA.length (aR o.aA))(Br:aC DX 121 9 (.slice eb o.index.length cI) o.index.length (aR o.index))(h1:o.aA.length<=100)(h2:o.index.length<=100):Ct 68 [ptr a] [[(a,yx o.used o.size o.root (.slice jM o.aA.length cP) (.slice eb o.index.length cI) r o.clean)],DP,DX] fun u Bs=>∃ad c D,u = .slice ad (bL (o.aA++o.index)).length c/\aC D 121 9 (.slice ad (bL (o.aA++o.index)).length c) (bL (o.aA++o.index)).length (aR (bL (o.aA++o.index)))/\Bs=[D,[(a,yx o.used o.size o.root (.slice jM o.aA.length cP) (.slice eb o.index.length cI) r o.clean)],DP,DX]:=by
 have hS:acT (DP++DX) [(.slice jM o.aA.length cP,o.aA),(.slice eb o.index.length cI,o.index)]:=by
  refine ⟨fun x hx => ?_,fun x hx => ?_,by simp,by simp [pU];omega⟩
  ·rcases List.mem_cons.1 hx with rfl | hx
   ·exact VJ.rd.sub fun y hy=>mem_append_left _ hy
   ·obtain rfl:=mem_singleton.1 hx
    exact Br.rd.sub fun y hy=>mem_append_right _ hy
  ·rcases List.mem_cons.1 hx with rfl | hx
   ·exact ⟨_,_,rfl⟩
   ·obtain rfl:=mem_singleton.1 hx
    exact ⟨_,_,rfl⟩
 refine st func68 fun w0 => ?_
 refine rQ [[(a,yx o.used o.size o.root (.slice jM o.aA.length cP) (.slice eb o.index.length cI) r o.clean)]] [0,4,8,12,16,20,24,28,46,33,39,42] ?_
 refine gm ?_;intro Z5
 refine gc (MN _ (DP++DX) _ 2 [(.slice jM o.aA.length cP,o.aA),(.slice eb o.index.length cI,o.index)] rfl (ay rfl (by simp [Value.oneCell']) (by simp [maxLen]) _) hS) ?_
 rintro u _ ⟨D0,Gb,rfl⟩
 refine gs ?_
 have ju:([(Value.slice jM o.aA.length cP,o.aA),(Value.slice eb o.index.length cI,o.index)].flatMap (·.2))=o.aA++o.index:=by simp
 obtain ⟨L,hL⟩:∃L,L=o.aA++o.index:=⟨_,rfl⟩
 have hLl:L.length<=200:=by rw [hL,length_append];omega
 rw [pU,ju,<-hL] at Gb
 rw [<-hL]
 have wC:=Gb.rd
 obtain ⟨KV,c0,rfl⟩:=wC.slice
 refine gl [0,15,16] (fun ((i,ia,c3,_):Nat×Option Addr×Nat×Chunk)=>[(17,.int .i64 i),(3,.slice ia (bL (L.take i)).length c3)]) (fun (_,_,_,D)=>[D]) (fun (i,ia,c3,D)=>i<=L.length/\aC D 121 9 (.slice ia (bL (L.take i)).length c3) (bL (L.take i)).length (aR (bL (L.take i)))) (fun (i,_)=>L.length - i) (0,none,0,[]) ⟨by omega,aC.nil _ _⟩ ?_
 rintro ⟨i,ia,c3,D⟩ ⟨hi,hD⟩
 refine gi ?_ ?_ <;> intro br
 ·have bh:i<L.length:=oZ
  obtain ⟨g,off,rfl⟩:=wC.addr oZ
  have hs:=av (lay:=Pt.lay) (s:=9) (fun _=>rfl) L i L[i] (by simp)
  have jL:=H9 bh
  refine ga ?_;intro b5
  refine go ?_
  rw [aaE]
  refine gi ?_ ?_ <;> intro hz
  ·have hnz:L[i]≠ai:=by simpa using hz
   rw [if_neg hnz] at jL
   have agv:(bL (L.take i)).length<=200:=by have:=length_filter_le (fun x=>decide (x≠ai)) (L.take i);rw [length_take] at this;unfold bL;omega
   refine gm ?_;intro b26
   refine gp ?_;intro qK c4 D4 hD4
   have hl4:(bL (L.take (i+1))).length=(bL (L.take i)).length+1:=by rw [jL];simp
   refine gn ?_
   exact ⟨(i+1,qK,c4,D4),⟨by omega,by rw [hl4,jL];simpa [aR,Pt.lay] using hD4⟩,sOZ,by simp only [hl4];exact ar,_,by simp only [hl4];exact aa⟩
  ·have hnz:L[i]=ai:=by simpa using hz
   rw [if_pos hnz,append_nil] at jL
   refine gn ?_
   exact ⟨(i+1,ia,c3,D),⟨by omega,by rw [jL];exact hD⟩,sOZ,by simp only [jL];exact ar,_,aa⟩
 ·obtain rfl:i=L.length:=oZ
  rw [take_length] at hD ⊢
  refine gz ?_
  exact fin ⟨ia,c3,D,rfl,hD,rfl⟩ aa
end Go.Proofs.YtpabnmeponmonaaGreatDoor
namespace Go.Sl
theorem BD {R:Rk}(h:R.on)(l:List Ev):(R.run l).off=false:=(h.run l).2
end Go.Sl
namespace Go.Proofs.YtpabnmeponmonaaGreatDoor
section
variable (T:TypeId)(fr:Nat×Nat)(p:Nat)(qs:List Nat)(t pool:Nat)(tp:Tp)(pr:Bool)(n:Nat)(ls:List (Option Lv))(no:Nat)(V:Chunk)(hV:iZ t pool tp pr n ls no V)
include hV
theorem J3:Ct 110 [ptr t] [V] fun u Bs=>u = .int .u64 pool/\Bs=[V]:=by
 obtain ⟨m,M,jj,cT,DT,eb,cI,DI,kB,cL,DL,pO,cl,Dl,vD,DD,L,hT,hI,xW,hl,hM,hL,rfl⟩:=hV
 refine st func110 fun w0 => ?_
 refine gs ?_
 refine gz ?_
 exact fin ⟨rfl,rfl⟩ aa
variable (ok:dj tp pr n ls.length)(dq:n<=2048)(hall:∀x∈ls,x≠none)(R:Rk)(C:Chunk)(hC:bj p qs R C)(ho:dE qs R n ls)(db:R.on)
variable (s:Nat)(vA:Value)(ra rd ae note:Nat)
include ok hall hC ho db
theorem Rv (x:Pt)(hx:fK x=0)(Cq:x.Ok)(ba:Nat)(tB:pool<18446744073709551616)(Fu:ba<18446744073709551616)(yD:ae+1<=281474976710656)(hxb:x.bg<=ae+1)(hw:R.ws.length+80<=900000000000) :
  Ct 46 [ptr s,x.agg,.int .u64 ba] [[(s,bU t vA ra rd ae note)],gK T fr,C,V] fun u Bs=>u = .int .i64 0/\∃C',bj p qs ((R.run (eA n ls ⟨pool,ae+1,ba,x⟩)).run (de ls)) C'/\Bs=[[(s,bU t vA ra rd (ae+1) ba)],gK T fr,C',V]:=by
 have nC:=J3 t pool tp pr n ls no V hV
 have Bh:=Bi T fr p qs t pool tp pr n ls no V hV ok R C hC ho hall ⟨pool,ae+1,ba,x⟩ (if_pos ⟨sOZ,sOZ,hx,hxb⟩) ⟨tB,sOZ,Fu,Cq⟩ rfl oZ
 rw [BD db] at Bh
 have ju:=fun C' bF=>qX (p:=p) (qs:=qs) (t:=t) (hV:=hV) (ok:=ok) (R:=R.run (eA n ls ⟨pool,ae+1,ba,x⟩)) (C:=C') (hC:=bF) (ho:=ho.run _) (hall:=hall)
 rw [BD (db.run _)] at ju
 have mX:IntKind.u64.wrap ((ae:Int)+1)=((ae+1:Nat):Int):=by rw [IntWalk.u64_in _ oZ];omega
 refine st func46 fun w0 => ?_
 refine ga ?_;intro b4
 refine gdo (aB.cons (0,0) (aB.cons (1,0) (aB.cons (2,0) (aB.cons (3,0) (aB.cons (5,0) (aB.cons (6,0) (aB.cons (7,0) (aB.cons (8,0) (aB.cons (9,0) (aB.cons (10,0) (aB.cons (11,0) (aB.fork 4 (aB.yh [(12,0),(13,1),(14,3)]) 13 (aB.yh [(4,1),(12,0),(14,3)]))))))))))))) ?_
 refine gk ?_ ?_
 case' refine_2 =>
  refine ga ?_;intro b7
  refine gc nC ?_
  rintro _ _ ⟨rfl,rfl⟩
  refine go ?_
 case' refine_1 =>
  refine gc nC ?_
  rintro _ _ ⟨rfl,rfl⟩
  refine ga ?_;intro b7
  refine go ?_
 all_goals
  refine rQ [[(s,bU t vA ra rd ae note)],[(b7,ax (⟨pool,ae+1,ba,x⟩:Ub).lay 123)]] [0,4,8,12,16,23,26] ?_
  refine gc Bh ?_
  rintro _ _ ⟨C1,rfl,pF,rfl⟩
  refine gc (ju C1 pF) ?_
  rintro _ _ ⟨C2,rfl,yq,rfl⟩
  refine gz ?_
  exact fin ⟨rfl,C2,yq,rfl⟩ aa
end
end Go.Proofs.YtpabnmeponmonaaGreatDoor
