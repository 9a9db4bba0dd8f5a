/-
  Texts put together (14).
-/
import Derived.Test.YteldablklnfblaaGreatDoorZTopTwice13
namespace Go.Sl
section
variable {P:Program}{w:World}{a:Act}{o:Oper}{n:Nat}{e:Env}{ds:List Deferred}{w0:World}{As Ls Rs:List Chunk}{K:Act->World->Prop}{Q:Exit->Act->World->Prop}{x y:Operand}{v:Value}
theorem kV (w:World)(t tx ty T:TypeId)(kk:IntKind)(i:TypeInfo)(zv:Value)(ht:P.underlying t=some (.slice T))(uo:P.underlying tx=some (.int kk))(hi:P.info? T=some i)(hz:i.zero=some zv)(base:Option Addr)(n c m:Nat)(xs:List Value)
  (hold:(Builtin.firstCells i.size n (.slice base n c)).run P w.drew = .ok xs.toArray w.drew) (hm:0<m) (bu:0<i.size) (hc:c<n+m) (y9:((n+m:Nat):Int)<=9223372036854775807) (hb:(n+m)*i.bytes<=140737488355328) :
  (Builtin.append_ #[t,tx] ty #[.slice base n c,.int kk m]).run P w = .ok (.slice (some ⟨w.heap.size,0,none⟩) (n+m) (grownCap w (n+m) c T)) (w.drew.alloc (.cells (xs.toArray++Builtin.zeroCells zv.cells m++Builtin.zeroCells zv.cells (grownCap w (n+m) c T - (n+m))) T)):=by
 have hw:IntKind.i64.wrap (m:Int)=m:=IntWalk.i64_in _ oZ
 have h1:¬(281474976710656<(m:Int)*(i.bytes:Int)):=by
  have h0:m*i.bytes<=(n+m)*i.bytes:=Nat.mul_le_mul_right _ oZ
  have h:((m*i.bytes:Nat):Int)<=140737488355328:=by omega
  rw [Int.natCast_mul] at h;omega
 have h2:¬n+m<=c:=by omega
 have h3:¬i.size=0:=by omega
 have h4:¬(9223372036854775807<((n:Int)+(m:Int))):=by omega
 have h5:¬(281474976710656<Builtin.nextslicecap (n+m) c*i.bytes):=by have:=growslice_fits (need:=n+m) (old:=c) (bytes:=i.bytes) oZ hb;omega
 have h6:¬((m:Int)<0):=by omega
 have h7:¬m*i.size=0:=Nat.ne_of_gt (Nat.mul_pos hm bu)
 simp [Builtin.append_,h6,h7,run_underlying ht,run_underlying uo,sizeOf,typeInfo,zeroValue,hi,hz,hw,h1,h2,h3,h4,h5,Question.forced,newRow,grownCap,asInt,asIntOf,hold]
theorem ta {C:Chunk}{T t tx ty:TypeId}{kk:IntKind}{i:TypeInfo}{zv:Value}{m:Nat}{xs ys:List Value}(hB:az C T i.size v n xs)(hC:∀x∈C,w.heap[x.1]? = some x.2)
  (ht:P.underlying t=some (.slice T)) (uo:P.underlying tx=some (.int kk)) (hi:P.info? T=some i) (hz:i.zero=some zv) (RS:zv.cells.size=i.size) (hy:(Builtin.zeroCells zv.cells m).toList=ys) (h1:∀u∈ys,u.oneCell'=true) (hm:0<m) (xp:0<i.size)
  (y9:n+m<=maxLen) (xo:(n+m)*i.bytes<=140737488355328) :
  ∃v' w' C',(Builtin.append_ #[t,tx] ty #[v,.int kk m]).run P w = .ok v' w'/\az C' T i.size v' (n+m) (xs++ys)/\l9 w w' [C] [C']:=by
 have Wc:ys.length=m*i.size:=by rw [<-hy,Array.length_toList,size_zeroCells,RS]
 have hya:Builtin.zeroCells zv.cells m=ys.toArray:=by rw [<-hy,Array.toArray_toList]
 have hlen:(xs++ys).length=(n+m)*i.size:=by rw [List.length_append,hB.1,Wc,Nat.add_mul]
 have fG:∀z∈xs++ys,z.oneCell'=true:=fun z hz=>(List.mem_append.1 hz).elim (hB.2.1 z) (h1 z)
 have ug:((n+m:Nat):Int)<=9223372036854775807:=by simp only [maxLen] at y9;omega
 have grown:∀(old:Nat) (C:Chunk),old<n+m ->
   az [(w.heap.size,.cells (xs.toArray++Builtin.zeroCells zv.cells m++Builtin.zeroCells zv.cells (grownCap w (n+m) old T - (n+m))) T)] T i.size (.slice (some ⟨w.heap.size,0,none⟩) (n+m) (grownCap w (n+m) old T)) (n+m) (xs++ys) /\
   l9 w (w.drew.alloc (.cells (xs.toArray++Builtin.zeroCells zv.cells m++Builtin.zeroCells zv.cells (grownCap w (n+m) old T - (n+m))) T)) [C] [[(w.heap.size,.cells (xs.toArray++Builtin.zeroCells zv.cells m++Builtin.zeroCells zv.cells (grownCap w (n+m) old T - (n+m))) T)]]:=by
  intro old C ho
  have xX:=grownCap_ge w (n+m) old T
  have lV:grownCap w (n+m) old T<=maxLen:=grownCap_le_maxLen w (n+m) old T y9
  refine ⟨⟨hlen,fG,.inr ⟨w.heap.size,_,(Builtin.zeroCells zv.cells (grownCap w (n+m) old T - (n+m))).toList,rfl, ?_,xX,lV, ?_⟩⟩, ?_⟩
  ·rw [hya];simp [ax]
  ·rw [hlen]
   simp only [Array.length_toList,size_zeroCells,RS,<-Nat.add_mul]
   congr 1
   omega
  ·unfold l9
   simp only [List.flatten_cons,List.flatten_nil,List.append_nil]
   exact Tr.drop (C:=C) (Tr.pre (tT w.drew _ C))
 rcases hB.2.2 with ⟨rfl,rfl,rfl⟩ | ⟨g,c,r,rfl,rfl,hnc,lV,MT⟩
 ·have hx:xs=[]:=List.eq_nil_of_length_eq_zero (by simpa using hB.1)
  subst hx
  have hr:=kV (P:=P) w t tx ty T kk i zv ht uo hi hz none 0 0 m [] (run_firstCells_none w.drew i.size 0 0 0) hm xp oZ ug xo
  obtain ⟨h1,h2⟩:=grown 0 [] oZ
  exact ⟨_,_,_,hr,h1,h2⟩
 ·have hg:w.heap[g]? = some (ax (xs++r) T):=hC _ (List.mem_singleton.2 rfl)
  by_cases eQ:n+m<=c
  ·have bE:n*i.size+ys.length<=(xs++r).length:=by
    rw [Wc,<-Nat.add_mul,List.length_append,MT];exact Nat.mul_le_mul_right _ eQ
   have cw:=run_storeCells_at P g (n*i.size) T ys 0 (xs++r).toArray w hg (by simpa using bE) h1
   simp only [Nat.add_zero] at cw
   have e1:(xs++r).take (n*i.size)++ys++(xs++r).drop (n*i.size+ys.length)=xs++ys++r.drop ys.length:=by
    rw [<-hB.1,List.take_left,<-List.drop_drop,List.drop_left]
   rw [e1] at cw
   have hw:IntKind.i64.wrap (m:Int)=m:=IntWalk.i64_in _ oZ
   have q1:¬(281474976710656<(m:Int)*(i.bytes:Int)):=by
    have h0:m*i.bytes<=(n+m)*i.bytes:=Nat.mul_le_mul_right _ oZ
    have h:((m*i.bytes:Nat):Int)<=140737488355328:=by omega
    rw [Int.natCast_mul] at h;omega
   have q6:¬((m:Int)<0):=by omega
   have q7:¬m*i.size=0:=Nat.ne_of_gt (Nat.mul_pos hm xp)
   refine ⟨.slice (some ⟨g,0,none⟩) (n+m) c,w.setRow g (xs++ys++r.drop ys.length).toArray,[(g,ax (xs++ys++r.drop ys.length) T)], ?_,⟨hlen,fG,.inr ⟨g,c,r.drop ys.length,rfl,rfl,eQ,lV, ?_⟩⟩,l9.row⟩
   ·simp [Builtin.append_,run_underlying ht,run_underlying uo,sizeOf,typeInfo,zeroValue,hi,hz,hw,q1,q6,q7,asInt,asIntOf,eQ,Addr.add_lit,hya,cw]
   ·have:=hB.1
    rw [List.length_append] at bE ⊢
    rw [List.length_drop]
    omega
  ·have hold:(Builtin.firstCells i.size n (.slice (some ⟨g,0,none⟩) n c)).run P w.drew = .ok xs.toArray w.drew :=
    run_firstCells_some w.drew i.size n ⟨g,0,none⟩ n c xs hB.1 fun j z hz=>by
     rw [Addr.add_lit,World.cell?_drew,iV hg]
     have hj:j<xs.length:=(List.getElem?_eq_some_iff.1 hz).1
     simp only [Nat.zero_add,List.getElem?_toArray,List.getElem?_append_left hj]
     exact hz
   have hr:=kV (P:=P) w t tx ty T kk i zv ht uo hi hz (some ⟨g,0,none⟩) n c m xs hold hm xp oZ ug xo
   obtain ⟨h1,h2⟩:=grown c [(g,ax (xs++r) T)] oZ
   exact ⟨_,_,_,hr,h1,h2⟩
end
section
variable {X:Cx}{f:Fx}{k:Kt}{e:Env}{Ls Rs Ms:List Chunk}{ops:List Oper}{r':aA}{κ d:Nat}{t:TypeId}{v:Value}
theorem WD.aeu {C:Chunk}{el tx:TypeId}{x y:Operand}{iI m s n:Nat}{kk:IntKind}{q:Int}{zv:Value}{xs:List Value}(hκ:dD κ=true)(hx:ev e x=some v)(hy:ev e y=some (.int kk q))(hT:X.T.Ok X.P)(hq:q=(m:Int))(hi:Ic X.T t=some (el,s,iI,zv))(uo:X.T.kB tx=some (.int kk))(hB:az C el s v n xs)(hp:Ls.Perm (C :: Rs))(h1:(Builtin.zeroCells zv.cells m).toList.all (·.oneCell')=true)(hb:0<s/\0<m/\n+m<=maxLen/\(n+m)*iI<=140737488355328)
  (hM:cM κ Ms Rs) (g:∀ad c C',az C' el s (.slice ad (n+m) c) (n+m) (xs++(Builtin.zeroCells zv.cells m).toList)->WO X f ops k Ms r' ((d,.slice ad (n+m) c) :: e) (C' :: Rs)):WD X f ops k Ms κ (some d) (.call ⟨.builtin .append,⟨[x,y]⟩,⟨[t,tx]⟩⟩) r' e Ls:=by
 obtain ⟨i,g1,g2,g3,g4,g5,g6⟩:=iJ hT hi
 subst hq g4 g6
 refine .ac hκ fun o a w ho hd hn E S => ?_
 have hC:∀x∈C,w.heap[x.1]? = some x.2:=S.j3.at (hp.mem_iff.2 (List.mem_cons_self ..))
 obtain ⟨v',w',C',hr,Bl,hT'⟩:=ta (P:=X.P) (w:=w) (ty:=o.type) hB hC g1 (aU.aR hT uo) g2 g3 g5 rfl (List.all_eq_true.1 h1) hb.2.1 hb.1 hb.2.2.1 hb.2.2.2
 have dC:ab X.P o a w v' w':=by
  simp [ab,execOp,ho,resolve,invoke,builtin,E.eval hx,E.eval hy,hr]
 refine dC.wp ?_
 rw [hd]
 obtain ⟨ad,c,rfl⟩:=Bl.slice
 exact KO.mk rfl (fun h C hC=>List.mem_cons_of_mem _ (hM h C hC)) (g ad c C' Bl) (E.put (hn d rfl) _) ((S.perm hp).V8 (BA (ko _ _) (HQ _)) hT')
end
end Go.Sl
namespace Go.Proofs.YteldablklnfblaaGreatDoor
open Go.Sl
theorem gpn {G H:Prop}(k:H)(h:gG H->G:=by
 intro kk;refine go ?_;refine WO.dec rfl ?_
 apply WD.aeu;exact rfl;exact rfl;exact rfl;exact aB;exact mv;exact rfl;exact rfl;assumption;exact pick;decide +kernel;(refine ⟨?_, ?_, ?_, ?_⟩ <;> (try simp only [maxLen]) <;> omega);exact keeps;exact kk.out):G:=h ⟨k⟩
end Go.Proofs.YteldablklnfblaaGreatDoor
namespace Go.Sl
def MpN (r:Nat)(k:IntKind)(L:List (Int×Value))(q:Int)(z:Value)(c:Nat)(C:Chunk):Prop:=∃Ms,Ms.map kv=L/\ux Ms c/\(∀m∈Ms,m.key≠q)/\C=[(r,.map (ji k (Ms++[⟨q,z,c⟩])) (c+1))]
theorem UB (k:IntKind)(A:List Me)(m:Me)(v:Value):(ji k (A++[m])).modify A.length (fun e=>{ e with val:=v })=ji k (A++[{ m with val:=v }]):=by
 apply Array.ext
 ·simp
 ·intro i h1 h2
  rw [Array.getElem_modify]
  simp only [ji,List.map_append,List.map_cons,List.getElem_toArray]
  by_cases c:A.length=i
  ·subst c
   rw [if_pos rfl]
   simp [Me.en]
  ·rw [if_neg c,List.getElem_append,List.getElem_append]
   split
   ·rfl
   ·rename_i hc
    simp only [List.length_map] at hc ⊢
    obtain ⟨j,hj⟩:∃j,i - A.length=j+1:=⟨i - A.length - 1,by omega⟩
    simp only [hj,List.getElem_cons_succ]
theorem Qf {k:IntKind}{A:List Me}{m:Me}{c:Nat}(hA:∀z∈A,z.born<c)(hm:m.born=c):(ji k (A++[m])).findIdx? (fun e=>(e.born:Int)==(c:Int))=some A.length:=by
 rw [ji,List.findIdx?_toArray,List.map_append,List.findIdx?_append]
 have h1:(A.map (Me.en k)).findIdx? (fun e=>(e.born:Int)==(c:Int))=none:=by
  rw [List.findIdx?_eq_none_iff]
  intro e he
  obtain ⟨z,hz,rfl⟩:=List.mem_map.1 he
  have:=hA z hz
  simp only [Me.en,beq_eq_false_iff_ne,ne_eq];omega
 rw [h1]
 simp [hm]
section
variable {X:Cx}{f:Fx}{k:Kt}{e:Env}{Ls Rs:List Chunk}{ops:List Oper}{Ms:List Chunk}{r':aA}{κ d:Nat}{v:Value}{t et:TypeId}{x y z:Operand}{r:Nat}{kk:IntKind}{L:List (Int×Value)}{q:Int}{C:Chunk}
theorem WD.aev (hκ:dD κ=true)(hx:ev e x=some (.map (some r)))(hy:ev e y=some (.int kk q))(hT:X.T.Ok X.P)(ht:RV X.T t=some (et,kk))(hz:zv X.T et=some v)(hC:Mp r kk L C)(hp:Ls.Perm (C :: Rs))(hl:jU L q=none)
  (hM:cM κ Ms Rs) (g:∀(c:Nat) C',MpN r kk L q v c C'->WO X f ops k Ms r' ((d,.tuple #[v,.int .i64 c]) :: e) (C' :: Rs)):WD X f ops k Ms κ (some d) (.mapEntry t x y) r' e Ls:=by
 obtain ⟨kt,h1,h2⟩:=ov hT ht
 obtain ⟨es,clock,rfl,nI,rfl⟩:=hC
 unfold zv at hz
 split at hz
 ·rename_i i hi
  have hi:=hT.ty _ _ hi
  have hn:=uK hl
  refine .ac hκ fun o a w ho hd HX E S => ?_
  have hb:=S.get hp
  have hf:=pB (k:=kk) 0 hn
  have hp':(ji kk es).push { key:=.int kk q,val:=v,born:=clock }=ji kk (es++[⟨q,v,clock⟩]):=BN kk es ⟨q,v,clock⟩
  have dC:ab X.P o a w (.tuple #[v,.int .i64 clock]) { w with heap:=w.heap.setIfInBounds r (.map (ji kk (es++[⟨q,v,clock⟩])) (clock+1)) }:=by
   rw [<-hp']
   have hf':Instr.findNow (.int kk) (.int kk q) (ji kk es).toList 0=some none:=hf
   generalize ji kk es=L0 at *
   simp [ab,execOp,ho,E.eval hx,E.eval hy,Instr.mapEntry,run_underlying h1,Go.MapKept.run_getObj_map hb,dz h2,Go.MapKept.run_findKey h2 hf',zeroValue,typeInfo,hi,hz,Go.MapKept.run_setObj_map _ hb,goInt]
  refine dC.wp ?_
  rw [hd]
  exact KO.mk rfl (fun h C hC=>List.mem_cons_of_mem _ (hM h C hC)) (g clock _ ⟨es,rfl,nI,hn,rfl⟩) (E.put (HX d rfl) _) (bK S hp)
 ·cases hz
theorem WD.aew {c:Nat}{w:Value}(hκ:dD κ=true)(hx:ev e x=some (.map (some r)))(hy:ev e y=some (.int .i64 c))(hz:ev e z=some v)(hC:MpN r kk L q w c C)(hp:Ls.Perm (C :: Rs))
  (hM:cM κ Ms Rs) (g:∀C',Mp r kk (L++[(q,v)]) C'->WO X f ops k Ms r' e (C' :: Rs)):WD X f ops k Ms κ none (.entryStore t x y z) r' e Ls:=by
 obtain ⟨es,rfl,nI,hn,rfl⟩:=hC
 refine .ac hκ fun o a w' ho hd _ E S => ?_
 have hb:=S.get hp
 have hf:=Qf (k:=kk) (A:=es) (m:=⟨q,w,c⟩) (c:=c) nI.born rfl
 have hv:=UB kk es ⟨q,w,c⟩ v
 have S':=bK (ob':=.map (ji kk (es++[⟨q,v,c⟩])) (c+1)) S hp
 refine iP.wp (w':={ w' with heap:=w'.heap.setIfInBounds r (.map (ji kk (es++[⟨q,v,c⟩])) (c+1)) }) ?_ (by
  rw [hd]
  exact KO.mk rfl (fun h C hC=>List.mem_cons_of_mem _ (hM h C hC)) (g _ ⟨es++[⟨q,v,c⟩],c+1,by simp [kv],x6 nI rfl hn,rfl⟩) (E.BB _) S')
 unfold iP
 simp only at hv
 rw [<-hv]
 generalize ji kk (es++[⟨q,w,c⟩])=L0 at *
 simp [execOp,ho,E.eval hx,E.eval hy,E.eval hz,Instr.entryStore,Go.MapKept.run_getObj_map hb,asInt,asIntOf,hf,Go.MapKept.run_setObj_map _ hb]
end
end Go.Sl
namespace Go.Proofs.YteldablklnfblaaGreatDoor
open Go.Sl
theorem gme {G H:Prop}(k:H)(h:gG H->G:=by
 intro kk;refine go ?_;refine WO.dec rfl ?_
 apply WD.aev;exact rfl;exact rfl;exact rfl;exact aB;exact rfl;exact rfl;assumption;exact pick;assumption;exact keeps;exact kk.out):G:=h ⟨k⟩
theorem gms {G H:Prop}(k:H)(h:gG H->G:=by
 intro kk;refine go ?_;refine WO.dec rfl ?_
 apply WD.aew;exact rfl;exact rfl;exact rfl;exact rfl;assumption;exact pick;exact keeps;exact kk.out):G:=h ⟨k⟩
end Go.Proofs.YteldablklnfblaaGreatDoor
namespace Go.Sl
theorem tc {P:Program}{w:World}{t tx ty T T2:TypeId}{i:TypeInfo}{ad ad2:Option Addr}{n c c2:Nat}(ht:P.underlying t=some (.slice T))(uo:P.underlying tx=some (.slice T2))(hi:P.info? T=some i)(hc:n<=c) :
  (Builtin.append_ #[t,tx] ty #[.slice ad n c,.slice ad2 0 c2]).run P w = .ok (.slice ad n c) w:=by
 have hf:(Builtin.firstCells i.size 0 (.slice ad2 0 c2)).run P w = .ok #[] w:=by
  cases ad2 with
  | none=>exact run_firstCells_none w i.size 0 0 c2
  | some a=>exact run_firstCells_some w i.size 0 a 0 c2 [] (by simp) fun j z hz=>by simp at hz
 cases ad with
 | none=>simp [Builtin.append_,run_underlying ht,run_underlying uo,sizeOf,typeInfo,hi,Builtin.lenOf,hf,hc]
 | some a=>simp [Builtin.append_,run_underlying ht,run_underlying uo,sizeOf,typeInfo,hi,Builtin.lenOf,hf,hc,storeCells]
section
variable {X:Cx}{f:Fx}{k:Kt}{e:Env}{Ls:List Chunk}{ops:List Oper}{Ms:List Chunk}{r':aA}{κ d:Nat}{t tx:TypeId}{x y:Operand}
theorem WD.aex {C:Chunk}{el:TypeId}{iI m s q b off:Nat}{u zv:Value}{xs ys:List Value}(hκ:dD κ=true)(hx:ev e x=some (.slice (some ⟨b,off,none⟩) q q))(hy:ev e y=some u)(hT:X.T.Ok X.P)(hi:Ic X.T t=some (el,s,iI,zv))(hB:Rd C s (.slice (some ⟨b,off,none⟩) q q) q xs)(hm:C∈Ls)(hs:F4 X.T Ls s tx u m ys)(hb:q+m<=maxLen/\(q+m)*iI<=140737488355328)(h0:0<m)
  (hM:cM κ Ms Ls) (g:∀ad c C',az C' el s (.slice ad (q+m) c) (q+m) (xs++ys)->WO X f ops k Ms r' ((d,.slice ad (q+m) c) :: e) (C' :: Ls)):WD X f ops k Ms κ (some d) (.call ⟨.builtin .append,⟨[x,y]⟩,⟨[t,tx]⟩⟩) r' e Ls:=by
 obtain ⟨i,g1,g2,g3,g4,g5,g6⟩:=iJ hT hi
 exact .ac hκ fun _ _ w ho hd hn E S=>FP E S ho hd (hn d rfl) hx hy hB hm (hs X.P w hT S.j3) g1 g2 g3 g4 g5 g6 hb.1 hb.2 h0 fun _ _ v' C' E' S' Bl=>by obtain ⟨ad,c,rfl⟩:=Bl.slice;exact KO.mk rfl (fun h C hC=>List.mem_cons_of_mem _ (hM h C hC)) (g ad c C' Bl) E' S'
theorem WD.aey {el:TypeId}{iI s q c c2:Nat}{ad ad2:Option Addr}{zv:Value}(hκ:dD κ=true)(hx:ev e x=some (.slice ad q c))(hy:ev e y=some (.slice ad2 0 c2))(hT:X.T.Ok X.P)(hi:Ic X.T t=some (el,s,iI,zv))(uo:F3 X.T tx=true)(hc:q<=c)
  (hM:cM κ Ms Ls) (g:WO X f ops k Ms r' ((d,.slice ad q c) :: e) Ls):WD X f ops k Ms κ (some d) (.call ⟨.builtin .append,⟨[x,y]⟩,⟨[t,tx]⟩⟩) r' e Ls:=by
 obtain ⟨i,g1,g2,g3,g4,g5,g6⟩:=iJ hT hi
 obtain ⟨el2,h2⟩:=zx hT uo
 refine .ac hκ fun o a w ho hd hn E S => ?_
 have hr:=tc (P:=X.P) (w:=w) (ty:=o.type) (ad:=ad) (ad2:=ad2) (n:=q) (c:=c) (c2:=c2) g1 h2 g2 hc
 have dC:ab X.P o a w (.slice ad q c) w:=by
  simp [ab,execOp,ho,resolve,invoke,builtin,E.eval hx,E.eval hy,hr]
 refine dC.wp ?_
 rw [hd]
 exact KO.mk rfl hM g (E.put (hn d rfl) _) S
end
end Go.Sl
namespace Go.Proofs.YteldablklnfblaaGreatDoor
open Go.Sl
theorem gpf {G H:Prop}(k:H)(h:gG H->G:=by
 intro kk;refine go ?_;refine WO.dec rfl ?_
 apply WD.aex;exact rfl;exact rfl;exact rfl;exact aB;exact rfl;assumption;exact mem;exact SU;exact szs;exact om;exact keeps;exact kk.out):G:=h ⟨k⟩
theorem gpe {G H:Prop}(k:H)(h:gG H->G:=by
 intro kk;refine go ?_;refine WO.dec rfl ?_
 apply WD.aey;exact rfl;exact rfl;exact rfl;exact aB;exact rfl;exact rfl;exact om;exact keeps;exact kk.out):G:=h ⟨k⟩
set_option maxRecDepth 10000
set_option maxHeartbeats 4000000
section
variable (a:Nat)(l:List au)(aQ:mO l)(txg note room:Nat)(eQ:room<=100000)(vG vS:Value)(ad:Option Addr)(c:Nat)(D O:Chunk)(hD:Rd D 130 (.slice ad l.length c) l.length (l.flatMap au.lay))(hO:Ed O l)
theorem He (k z:Int)(h:¬(1<=k/\k<=112)\/¬(1<=z/\z<=112)):Ct 47 [ptr a,.int .i64 k,.int .i64 z] [] fun u Bs=>u = .int .i64 1/\Bs=[]:=by
 refine st Tryz.func47 fun w0 => ?_
 refine gc (cB k) ?_
 rintro _ _ ⟨rfl,rfl⟩
 refine gc (cB z) ?_
 rintro _ _ ⟨rfl,rfl⟩
 by_cases hk:1<=k/\k<=112
 ·rw [decide_eq_true hk,decide_eq_false (h.resolve_left (fun c=>c hk))]
  refine gz ?_
  exact fin ⟨rfl,rfl⟩ aa
 ·rw [decide_eq_false hk]
  refine gz ?_
  exact fin ⟨rfl,rfl⟩ aa
theorem Hf (k:Int)(h:¬(1<=k/\k<=112)):Ct 49 [ptr a,.int .i64 k] [] fun u Bs=>u = .int .i64 1/\Bs=[]:=by
 have hn:=cB k
 rw [decide_eq_false h] at hn
 refine st Tryz.func49 fun w0 => ?_
 refine gc hn ?_
 rintro _ _ ⟨rfl,rfl⟩
 refine gz ?_
 exact fin ⟨rfl,rfl⟩ aa
include aQ
theorem Qg (k:Int)(hk:1<=k/\k<=112)(hH:Jd D (.slice ad l.length c) l.length (l.flatMap au.lay))(hc:l.length<=c) :
  Ct 49 [ptr a,.int .i64 k] [[(a,eM (.slice ad l.length c) txg note room vG vS)],D] fun u Bs=>(ey l k=none/\u = .int .i64 130/\Bs=[[(a,eM (.slice ad l.length c) txg note room vG vS)],D])\/∃i o l' ba c' D',l[i]? = some o/\ey l k=some o/\l'=l.take i++l.drop (i+1)/\u = .int .i64 0/\Jd D' (.slice ba l'.length c') l'.length (l'.flatMap au.lay)/\l'.length<=c'/\Bs=[[(a,eM (.slice ba l'.length c') txg note room vG vS)],D']:=by
 have hn:=cB k
 rw [decide_eq_true hk] at hn
 have hD:=hH.1
 have gA:=qf a l aQ txg note room vG vS ad c D hD k
 have nP:=aQ.jY
 refine st Tryz.func49 fun w0 => ?_
 refine gc hn ?_
 rintro _ _ ⟨rfl,rfl⟩
 refine gc gA ?_
 rintro _ _ ⟨⟨rfl,hn⟩ | ⟨i,o,rfl,hi,hn⟩,rfl⟩
 ·refine gz ?_
  exact fin (.inl ⟨hn,rfl,rfl⟩) aa
 ·have bm:=(List.getElem?_eq_some_iff.1 hi).1
  rcases hH.2 with h0 | ⟨g,c',r,hv,rfl⟩
  ·omega
  cases hv
  have s7:(l.drop (i+1)).length=l.length - (i+1):=List.length_drop ..
  have ou:((l.flatMap au.lay).drop ((i+1)*130)).take ((l.length - (i+1))*130)=(l.drop (i+1)).flatMap au.lay:=by
   rw [rA au.aj,List.take_of_length_le (by rw [fN au.aj,s7];exact Nat.le_refl _)]
  have hRi:Rd [(g,ax (l.flatMap au.lay++r) 72)] 130 (.slice (some ⟨g,0,none⟩) i i) i ((l.take i).flatMap au.lay):=by
   have h1:=kG au.aj i l
   refine ⟨by rw [fN au.aj,List.length_take,Nat.min_eq_left oZ],fun u hu=>hD.2.1 u ?_,by simp only [maxLen];omega,.inr ⟨g,0,i,_,_,_,rfl,List.mem_singleton.2 rfl,fun j u hu => ?_⟩⟩
   ·rw [<-h1] at hu;exact List.mem_of_mem_take hu
   ·rw [<-h1] at hu
    rw [Nat.zero_add,List.getElem?_toArray,List.getElem?_append_left (by have:=(List.getElem?_eq_some_iff.1 hu).1;rw [List.length_take] at this;omega)]
    rw [List.getElem?_take] at hu
    split at hu
    ·exact hu
    ·cases hu
  by_cases W5:l.length=i+1
  ·have Mq:l.length - (i+1)=0:=by omega
   have hn0:i - 0=i:=rfl
   have lW:l.take i++l.drop (i+1)=l.take i:=by rw [List.drop_of_length_le oZ,List.append_nil]
   have hti:(l.take i).length=i:=by rw [List.length_take];omega
   refine gw ?_;intro sX hR7
   refine gp ?_;intro yn c8 E8 hE8
   refine gv ?_
   refine gpe ?_
   refine gz ?_
   refine fin (.inr ⟨i,o,l.take i,some ⟨g,0,none⟩,i,_,hi,hn,lW.symm,rfl,⟨by rw [hti];exact hRi,.inr ⟨g,i,(l.drop i).flatMap au.lay++r,by rw [hti], ?_⟩⟩,by omega,by rw [hti]⟩) aa
   rw [<-List.append_assoc,<-List.flatMap_append,List.take_append_drop]
  ·obtain ⟨q,hq⟩:∃q,l.length - (i+1)=q:=⟨_,rfl⟩
   have hn0:i - 0=i:=rfl
   have lW:(l.take i++l.drop (i+1)).length=i+q:=by rw [List.length_append,List.length_take,s7];omega
   refine gw ?_;intro sX hR7
   refine gp ?_;intro yn c8 E8 hE8
   refine gv ?_
   refine gpf ?_;intro MF c9 E9 ZK
   rw [<-List.flatMap_append] at ZK
   refine gz ?_
   refine fin (.inr ⟨i,o,l.take i++l.drop (i+1),MF,c9,E9,hi,hn,rfl,rfl,by rw [lW];exact Jd.of ZK,by rw [lW];exact ZK.dN,by rw [lW]⟩) aa
include hD hO eQ
theorem qp (k:Int)(hk:1<=k/\k<=112)(z:Nat)(hz:1<=z/\z<=112) :
  Ct 47 [ptr a,.int .i64 k,.int .i64 z] [[(a,eM (.slice ad l.length c) txg note room vG vS)],D,O] fun u Bs=>(ey l k=none/\u = .int .i64 130/\Bs=[[(a,eM (.slice ad l.length c) txg note room vG vS)],D,O])\/∃o,ey l k=some o/\((k=z/\u = .int .i64 0/\Bs=[[(a,eM (.slice ad l.length c) txg note room vG vS)],D,O])\/(k≠z/\cA l z o.b.length room=false/\u = .int .i64 3/\Bs=[[(a,eM (.slice ad l.length c) txg note room vG vS)],D,O])\/(k≠z/\cA l z o.b.length room=true/\u = .int .i64 0/\∃v l' ba c' D' E,l'=dF { o with no:=z,v:=v } false l/\Ed (O++E) l' /\
   az D' 72 130 (.slice ba l'.length c') l'.length (l'.flatMap au.lay)/\Bs=[[(a,eM (.slice ba l'.length c') txg note room vG vS)],D',O,E])):=by
 have Mq:=cB k
 rw [decide_eq_true hk] at Mq
 have dE:=cB z
 rw [decide_eq_true oZ] at dE
 have gA:=qf a l aQ txg note room vG vS ad c D hD k
 have bE:=fun size hs=>AA a l aQ txg note room vG vS ad c D O hD hO z size hs eQ
 have bL:=fun o hv=>Hb a l aQ txg note room vG vS ad c D hD o hv (fun x hx=>by obtain ⟨⟨ad,c,hv, -⟩, -⟩:=hO x hx;rw [hv];rfl)
 have nP:=aQ.jY
 refine st Tryz.func47 fun w0 => ?_
 refine gc Mq ?_
 rintro _ _ ⟨rfl,rfl⟩
 refine gc dE ?_
 rintro _ _ ⟨rfl,rfl⟩
 refine gc gA ?_
 rintro _ _ ⟨⟨rfl,hn⟩ | ⟨i,o,rfl,hi,hn⟩,rfl⟩
 ·refine gz ?_
  exact fin (.inl ⟨hn,rfl,rfl⟩) aa
 ·have bm:=(List.getElem?_eq_some_iff.1 hi).1
  have qR:=List.mem_of_getElem? hi
  have Bm:=aQ.sm o qR
  obtain ⟨⟨j8,cv,hv,R3⟩,MG⟩:=hO o qR
  rw [hv] at MG
  obtain ⟨gD,off,rfl⟩:=hD.addr oZ
  have hs:=ar au.aj l i o hi
  have GO:=o.aj
  have fG:=o.bC (by rw [hv];rfl)
  have XO:o.lay[1]? = some (.slice j8 o.b.length cv):=by rw [<-hv];exact au.rM _
  refine gi ?_ ?_ <;> intro jE
  ·refine gz ?_
   exact fin (.inr ⟨o,hn,.inl ⟨by simpa using jE,rfl,rfl⟩⟩) aa
  ·have jE:k≠z:=by simpa using jE
   have ZI:=bE o.b.length Bm
   refine ga ?_;intro xc
   refine gc ZI ?_
   rintro _ _ ⟨rfl,rfl⟩
   cases Jc:cA l z o.b.length room with
   | false =>
    refine gz ?_
    exact fin (.inr ⟨o,hn,.inr (.inl ⟨jE,Jc,rfl,rfl⟩)⟩) aa
   | true =>
    have e0:o.lay.set 0 (.int .i64 z)=({ o with no:=z }:au).lay:=au.ael o z
    have Km:(o.lay.set 0 (.int .i64 z)).length=130:=by rw [List.length_set];exact GO
    have hv2:(o.lay.set 0 (.int .i64 z))[1]? = some (.slice j8 o.b.length cv):=by rw [e0,<-hv];exact au.rM _
    refine gp ?_;intro AH cE E hE
    have rO:({ o with no:=z,v:=.slice AH o.b.length cE }:au).aj=({ o with no:=z,v:=.slice AH o.b.length cE }:au).aj:=rfl
    have aet:=({ o with no:=z,v:=.slice AH o.b.length cE }:au).aj
    have e1:(o.lay.set 0 (.int .i64 z)).set 1 (.slice AH o.b.length cE)=({ o with no:=z,v:=.slice AH o.b.length cE }:au).lay:=by rw [e0];exact au.Ul _ _
    have hpj:=bL { o with no:=z,v:=.slice AH o.b.length cE } rfl
    refine go ?_
    rw [e1]
    refine gc hpj ?_
    rintro _ _ ⟨ba,c',D',eo,rfl⟩
    refine gz ?_
    refine fin (.inr ⟨_,hn,.inr (.inr ⟨jE,Jc,rfl,.slice AH o.b.length cE,_,ba,c',D',E,rfl,fun q hq => ?_,eo,rfl⟩)⟩) aa
    rcases kT hq with rfl | hq
    ·exact ⟨⟨AH,cE,rfl,hE.dN⟩,hE.rd.sub fun y hy=>List.mem_append_right _ hy⟩
    ·exact ⟨(hO q hq).1,(hO q hq).2.sub fun y hy=>List.mem_append_left _ hy⟩
end
end Go.Proofs.YteldablklnfblaaGreatDoor
namespace Go.Sl
section
variable {R:Rk}{l:List Ev}{i a:Nat}{b:eG}
theorem wB (R:Rk)(d i a:Nat)(g:Dk->Dk)(h:∀x:Dk,d=i->(g x).now[a]? = x.now[a]?):(((R.ds.modify d g)[i]?).bind fun (x:Dk)=>x.now[a]?)=(R.ds[i]?).bind fun (x:Dk)=>x.now[a]?:=by
 rw [List.getElem?_modify]
 cases hx:R.ds[i]? with
 | none=>simp
 | some x =>
  by_cases c:d=i
  ·simp [c,h x c]
  ·simp [c]
theorem Lu (R:Rk)(d i a:Nat)(g:Dk->Dk)(h:∀x:Dk,d=i->(g x).fo[a]? = x.fo[a]?):(((R.ds.modify d g)[i]?).bind fun (x:Dk)=>x.fo[a]?)=(R.ds[i]?).bind fun (x:Dk)=>x.fo[a]?:=by
 rw [List.getElem?_modify]
 cases hx:R.ds[i]? with
 | none=>simp
 | some x =>
  by_cases c:d=i
  ·simp [c,h x c]
  ·simp [c]
theorem xK {d a':Nat}(h:¬(d=i/\a'=a)):(R.put d a' b).now i a=R.now i a:=by
 unfold Rk.now Rk.put
 exact congrArg (fun o:Option eG=>o.getD []) (wB R d i a _ fun x hd=>by
  simp only [List.getElem?_set]
  rw [if_neg (fun e=>h ⟨hd,e⟩)])
theorem Qh {d a':Nat}:(R.put d a' b).pl i a=R.pl i a:=by
 unfold Rk.pl Rk.put
 exact congrArg (fun o:Option eG=>o.getD []) (Lu R d i a _ fun x _=>rfl)
theorem qq {e:Ev}(h:∀b,e ≠ .w i a b):(R.ev e).now i a=R.now i a:=by
 cases e with
 | w d a' b =>
  have hp:(R.put d a' b).now i a=R.now i a:=xK fun ⟨h1,h2⟩=>h b (by rw [h1,h2])
  simp only [Rk.ev]
  split
  ·rfl
  ·split
   ·exact hp
   ·rfl
   ·exact hp
 | f d =>
  simp only [Rk.ev]
  split
  ·rfl
  ·exact congrArg (fun o:Option eG=>o.getD []) (wB R d i a _ fun x _=>rfl)
theorem bJ (h:∀b,Ev.w i a b∉l):(R.run l).now i a=R.now i a:=by
 induction l generalizing R with
 | nil=>rfl
 | cons e l ih =>
  rw [Rk.eZ,ih fun b hb=>h b (List.mem_cons_of_mem _ hb)]
  exact qq fun b he=>h b (by rw [he];exact List.mem_cons_self ..)
theorem Et (bZ:R.on)(ha:a<R.size i):(R.ev (.w i a b)).now i a=b:=by
 obtain ⟨h1,h2⟩:=bZ
 simp only [Rk.ev,h1,h2,Bool.false_eq_true,if_false]
 unfold Rk.now Rk.put
 unfold Rk.size at ha
 simp only [List.getElem?_modify_eq]
 cases hx:R.ds[i]? with
 | none=>rw [hx] at ha;simp at ha
 | some x =>
  rw [hx] at ha
  simp only [Option.map_some,Option.getD_some] at ha
  simp [ha]
theorem hY (bZ:R.on)(ha:a<R.size i)(h:∀b',Ev.w i a b'∈l->b'=b)(hm:Ev.w i a b∈l):(R.run l).now i a=b:=by
 induction l generalizing R with
 | nil=>cases hm
 | cons e l ih =>
  rw [Rk.eZ]
  by_cases c:Ev.w i a b∈l
  ·exact ih (bZ.ev e) (by rw [Rk.tC];exact ha) (fun b' hb=>h b' (List.mem_cons_of_mem _ hb)) c
  ·rcases List.mem_cons.1 hm with rfl | hm
   ·rw [bJ fun b' hb=>c (by rw [<-h b' (List.mem_cons_of_mem _ hb)];exact hb)]
    exact Et bZ ha
   ·exact absurd hm c
theorem UC {e:Ev}(h:∀d,e ≠ .f d):(R.ev e).pl i a=R.pl i a:=by
 cases e with
 | w d a' b =>
  simp only [Rk.ev]
  split
  ·rfl
  ·split
   ·exact Qh
   ·rfl
   ·exact Qh
 | f d=>exact absurd rfl (h d)
theorem Hg (h:∀d,Ev.f d∉l):(R.run l).pl i a=R.pl i a:=by
 induction l generalizing R with
 | nil=>rfl
 | cons e l ih =>
  rw [Rk.eZ,ih fun b hb=>h b (List.mem_cons_of_mem _ hb)]
  exact UC fun b he=>h b (by rw [he];exact List.mem_cons_self ..)
theorem kW (d:Nat):(R.ev (.f d)).now i a=R.now i a:=qq fun b h=>by cases h
theorem Je (bZ:R.on):(R.ev (.f i)).pl i a=R.now i a:=by
 obtain ⟨h1,h2⟩:=bZ
 simp only [Rk.ev,h2,Bool.false_eq_true,if_false]
 unfold Rk.pl Rk.now
 simp only [List.getElem?_modify_eq]
 cases hx:R.ds[i]? <;> simp
theorem Eu {d:Nat}(h:R.pl i a=R.now i a):(R.ev (.f d)).pl i a=R.now i a:=by
 simp only [Rk.ev]
 split
 ·exact h
 ·unfold Rk.pl Rk.now at *
  simp only [List.getElem?_modify]
  by_cases c:d=i
  ·subst c
   cases hx:R.ds[d]? <;> simp
  ·cases hx:R.ds[i]? with
   | none=>simp
   | some x=>rw [hx] at h;simpa [c] using h
theorem Qi (bZ:R.on):∀ {l:List Nat},i∈l->(R.run (l.map .f)).pl i a=R.now i a:=by
 intro l
 have dg:∀(l:List Nat) (R:Rk),R.pl i a=R.now i a->(R.run (l.map .f)).pl i a=R.now i a:=by
  intro l
  induction l with
  | nil=>exact fun R h=>h
  | cons d l ih =>
   intro R h
   rw [List.map_cons,Rk.eZ,ih _ (by rw [Eu h,kW]),kW]
 induction l generalizing R with
 | nil=>intro h;cases h
 | cons d l ih =>
  intro h
  rw [List.map_cons,Rk.eZ]
  by_cases c:d=i
  ·subst c
   rw [dg l _ (by rw [Je bZ,kW]),kW]
  ·rcases List.mem_cons.1 h with e | h
   ·exact absurd e.symm c
   ·rw [ih (bZ.ev _) h,kW]
theorem ij:R.xi.now i a=R.pl i a:=by
 unfold Rk.now Rk.pl Rk.xi
 rw [List.getElem?_map]
 cases R.ds[i]? <;> rfl
theorem ZL:R.xi.pl i a=R.pl i a:=by
 unfold Rk.pl Rk.xi
 rw [List.getElem?_map]
 cases R.ds[i]? <;> rfl
theorem ZM:R.xi.on:=⟨rfl,rfl⟩
theorem Qj:R.xi.live i↔R.live i:=by
 unfold Rk.live Rk.xi
 rw [List.getElem?_map]
 cases R.ds[i]? <;> rfl
theorem Qk (h:R.Ok):R.xi.size i=R.size i:=by
 unfold Rk.size Rk.xi
 rw [List.getElem?_map]
 cases hx:R.ds[i]? with
 | none=>rfl
 | some x=>simp [Dk.back,(h.len x (List.mem_of_getElem? hx)).1]
end
theorem eO {d i a:Nat}{b:eG}:∀ {l:List eG} {at_:Nat},Ev.w i a b∈fT d at_ l↔i=d/\∃j:Nat,l[j]? = some b/\a=at_+j
 | [],at_=>by simp [fT]
 | s :: l,at_=>by
  rw [fT,List.mem_cons,eO (l:=l) (at_:=at_+1)]
  constructor
  ·rintro (h | ⟨rfl,j,h1,rfl⟩)
   ·cases h;exact ⟨rfl,0,rfl,rfl⟩
   ·exact ⟨rfl,j+1,h1,by omega⟩
  ·rintro ⟨rfl,j,h1,rfl⟩
   cases j with
   | zero=>left;simp at h1;rw [h1];rfl
   | succ j=>right;exact ⟨rfl,j,h1,by omega⟩
theorem mR {d a e:Nat}:∀ {l:List eG},Ev.f e∉fT d a l
 | []=>by simp [fT]
 | s :: l=>by rw [fT,List.mem_cons];exact fun h=>h.elim (fun h=>by cases h) mR
theorem ei {f:Nat->List Ev}{e:Ev}:∀ {m:Nat},e∈upto f m↔∃k,k<m/\e∈f k
 | 0=>by simp [upto]
 | m+1=>by
  rw [upto,List.mem_append,ei (m:=m)]
  constructor
  ·rintro (⟨k,h1,h2⟩ | h)
   ·exact ⟨k,by omega,h2⟩
   ·exact ⟨m,by omega,h⟩
  ·rintro ⟨k,h1,h2⟩
   rcases (show k<m\/k=m by omega) with c | rfl
   ·exact .inl ⟨k,c,h2⟩
   ·exact .inr h2
def wC (ls:List (Option Lv)):Prop:=∀k,k<ls.length->∃x,ls[k]? = some (some x)/\x.i=k
theorem jK.i {qs:List Nat}{ls:List (Option Lv)}(h:jK qs ls):wC ls:=fun k hk=>by
 obtain ⟨a,q, -,h2⟩:=h k hk
 exact ⟨_,h2,rfl⟩
section
variable {ls:List (Option Lv)}(hI:wC ls)
include hI
theorem wC.at {k:Nat}{x:Lv}(h:ls[k]? = some (some x)):x.i=k/\k<ls.length:=by
 have hk:=(List.getElem?_eq_some_iff.1 h).1
 obtain ⟨y,h1,h2⟩:=hI k hk
 rw [h] at h1;cases h1
 exact ⟨h2,hk⟩
theorem Hh:iH ls=(List.range ls.length).map .f:=by
 have:∀m,m<=ls.length->upto (nr ls) m=(List.range m).map .f:=by
  intro m
  induction m with
  | zero=>intro _;rfl
  | succ m ih =>
   intro h
   obtain ⟨x,h1,h2⟩:=hI m oZ
   rw [upto,ih oZ,List.range_succ,List.map_append]
   congr 1
   unfold nr;rw [h1];simp [h2]
 exact this _ (Nat.le_refl _)
theorem AI {n:Nat}{u:Ub}{i a:Nat}{b:eG}:Ev.w i a b∈oM n ls u↔i<ls.length/\b=whole (kE u)/\∃k,k<4/\a=fC n k+1+u.txg % 8:=by
 unfold oM
 rw [ei]
 constructor
 ·rintro ⟨k,hk,h⟩
  obtain ⟨x,h1,h2⟩:=hI k hk
  unfold GV at h
  rw [h1] at h
  obtain ⟨q,hq,h⟩:=ei.1 h
  obtain ⟨rfl,j,hj,rfl⟩:=eO.1 h
  obtain rfl:j=0:=by
   have:=(List.getElem?_eq_some_iff.1 hj).1
   simpa using this
  simp at hj
  exact ⟨by omega,hj.symm,q,hq,rfl⟩
 ·rintro ⟨hi,rfl,q,hq,rfl⟩
  obtain ⟨x,h1,h2⟩:=hI i hi
  refine ⟨i,hi, ?_⟩
  unfold GV
  rw [h1]
  refine ei.2 ⟨q,hq,eO.2 ⟨h2.symm,0,rfl,rfl⟩⟩
theorem tP {k no:Nat}{s:List UInt8}{i a:Nat}{b:eG}:Ev.w i a b∈upto (jM ls k no s) ls.length↔i<ls.length/\b=iZ no s/\a=18+k:=by
 rw [ei]
 constructor
 ·rintro ⟨q,hq,h⟩
  obtain ⟨x,h1,h2⟩:=hI q hq
  unfold jM at h
  rw [h1] at h
  obtain ⟨rfl,j,hj,rfl⟩:=eO.1 h
  obtain rfl:j=0:=by
   have:=(List.getElem?_eq_some_iff.1 hj).1
   simpa using this
  simp at hj
  exact ⟨by omega,hj.symm,rfl⟩
 ·rintro ⟨hi,rfl,rfl⟩
  obtain ⟨x,h1,h2⟩:=hI i hi
  refine ⟨i,hi, ?_⟩
  unfold jM
  rw [h1]
  exact eO.2 ⟨h2.symm,0,rfl,rfl⟩
omit hI in
theorem Ql {k no e m:Nat}{s:List UInt8}:Ev.f e∉upto (jM ls k no s) m:=by
 rw [ei]
 rintro ⟨q,hq,h⟩
 unfold jM at h
 split at h
 ·exact mR h
 ·cases h
theorem AJ {pr:Bool}{at_:Nat}{bs:List UInt8}(hw:pr=true->2<=ls.length){i a:Nat}{b:eG}:Ev.w i a b∈s9 pr ls at_ bs ↔
  if pr then ∃j:Nat,(ja ls.length bs)[j]? = some b/\i=(at_+j) % ls.length/\a=274+(at_+j) / ls.length
  else i<ls.length/\∃j:Nat,(kL bs)[j]? = some b/\a=274+at_+j:=by
 cases pr with
 | false =>
  rw [s9,if_neg (by simp),if_neg (by simp),ei]
  constructor
  ·rintro ⟨k,hk,h⟩
   obtain ⟨x,h1,h2⟩:=hI k hk
   unfold nM at h
   rw [h1] at h
   obtain ⟨rfl,j,hj,rfl⟩:=eO.1 h
   exact ⟨by omega,j,hj,rfl⟩
  ·rintro ⟨hi,j,hj,rfl⟩
   obtain ⟨x,h1,h2⟩:=hI i hi
   refine ⟨i,hi, ?_⟩
   unfold nM
   rw [h1]
   exact eO.2 ⟨h2.symm,j,hj,rfl⟩
 | true =>
  have hw:=hw rfl
  rw [s9,if_pos rfl,if_pos rfl,ei]
  constructor
  ·rintro ⟨k,hk,h⟩
   obtain ⟨x,h1,h2⟩:=hI ((at_+k) % ls.length) (Nat.mod_lt _ oZ)
   unfold nN at h
   rw [h1] at h
   cases hs:(ja ls.length bs)[k]? with
   | none=>rw [hs] at h;cases h
   | some s =>
    rw [hs] at h
    obtain ⟨rfl,j,hj,rfl⟩:=eO.1 h
    obtain rfl:j=0:=by
     have:=(List.getElem?_eq_some_iff.1 hj).1
     simpa using this
    simp at hj
    exact ⟨k,by rw [hs,hj],h2,rfl⟩
  ·rintro ⟨j,hj,rfl,rfl⟩
   obtain ⟨x,h1,h2⟩:=hI ((at_+j) % ls.length) (Nat.mod_lt _ oZ)
   refine ⟨j, ?_, ?_⟩
   ·have:=(List.getElem?_eq_some_iff.1 hj).1
    rwa [pY hw] at this
   ·unfold nN
    rw [h1,hj]
    exact eO.2 ⟨h2.symm,0,rfl,rfl⟩
omit hI in
theorem Qm {pr:Bool}{at_ e:Nat}{bs:List UInt8}:Ev.f e∉s9 pr ls at_ bs:=by
 unfold s9
 split
 ·rw [ei]
  rintro ⟨k, -,h⟩
  unfold nN at h
  split at h
  ·exact mR h
  ·cases h
 ·rw [ei]
  rintro ⟨k, -,h⟩
  unfold nM at h
  split at h
  ·exact mR h
  ·cases h
end
def sL {α:Type}(G:List α)(a:Nat)(b:List α):List α:=G.take a++b++G.drop (a+b.length)
theorem AK {α:Type}{G b:List α}{a:Nat}(h:a+b.length<=G.length):(sL G a b).length=G.length:=by simp [sL];omega
theorem nF {α:Type}{G b:List α}{a:Nat}(h:a+b.length<=G.length)(x:Nat):(sL G a b)[x]? = if a<=x/\x<a+b.length then b[x - a]? else G[x]?:=by
 unfold sL
 have ht:(G.take a).length=a:=by rw [List.length_take];omega
 by_cases c1:x<a
 ·rw [if_neg oZ,List.append_assoc,List.getElem?_append_left oZ,List.getElem?_take,if_pos c1]
 ·by_cases c2:x<a+b.length
  ·rw [if_pos oZ,List.getElem?_append_left (by rw [List.length_append];omega),List.getElem?_append_right oZ,ht]
  ·rw [if_neg oZ,List.getElem?_append_right (by rw [List.length_append];omega),List.getElem?_drop]
   congr 1
   rw [List.length_append];omega
theorem UD {α:Type}{G b:List α}{a c:Nat}(h:a+b.length<=G.length)(hc:c<=b.length):sL (sL G a (b.take c)) (a+c) (b.drop c)=sL G a b:=by
 have hl:(b.take c).length=c:=by rw [List.length_take];omega
 have h1:a+(b.take c).length<=G.length:=by omega
 apply List.ext_getElem?
 intro x
 rw [nF (by rw [AK h1,List.length_drop];omega),nF h1,nF h,List.length_drop,hl]
 by_cases c1:a+c<=x/\x<a+c+(b.length - c)
 ·rw [if_pos c1,if_pos oZ,List.getElem?_drop]
  congr 1;omega
 ·rw [if_neg c1]
  by_cases c2:a<=x/\x<a+c
  ·rw [if_pos c2,if_pos oZ,List.getElem?_take,if_pos oZ]
  ·rw [if_neg c2,if_neg oZ]
def gS (G:List UInt8)(k:Nat):List UInt8:=(G.drop (k*88)).take 88
theorem Qn {G:List UInt8}(h:G.length=22528){k:Nat}(hk:k<256):(gS G k).length=88:=by simp [gS,h];omega
theorem AL (G:List UInt8)(k y:Nat):(gS G k)[y]? = if y<88 then G[k*88+y]? else none:=by
 unfold gS
 rw [List.getElem?_take,List.getElem?_drop]
theorem Lw (s:List UInt8)(o:Nat)(b:List UInt8):ot s o b=sL s o (b.take (min b.length (88 - o))):=by
 unfold ot sL
 rw [List.length_take,Nat.min_eq_left (Nat.min_le_left _ _)]
theorem ZN {G b:List UInt8}{a k c:Nat}(hG:G.length=22528)(ha:a+b.length<=22528)(hc:c=min b.length (88 - a % 88))(hk:k<256):gS (sL G a (b.take c)) k=if k=a / 88 then ot (gS G k) (a % 88) b else gS G k:=by
 have hl:(b.take c).length=c:=by rw [List.length_take];omega
 have hm:=Nat.div_add_mod a 88
 have Mt:=Nat.mod_lt a (show 0<88 by omega)
 have h1:a+(b.take c).length<=G.length:=by omega
 by_cases ck:k=a / 88
 ·rw [if_pos ck]
  apply List.ext_getElem?
  intro y
  rw [AL,nF h1,hl,Lw,<-hc,nF (by rw [Qn hG hk,hl];omega),hl,AL]
  by_cases c1:y<88
  ·rw [if_pos c1,if_pos c1]
   by_cases c2:a % 88<=y/\y<a % 88+c
   ·rw [if_pos c2,if_pos oZ];congr 1;omega
   ·rw [if_neg c2,if_neg oZ]
  ·rw [if_neg c1,if_neg c1,if_neg oZ]
 ·rw [if_neg ck]
  apply List.ext_getElem?
  intro y
  rw [AL,nF h1,hl,AL]
  split
  ·rw [if_neg oZ]
  ·rfl
theorem ZO {G:List UInt8}(h:G.length=22528):(List.range 256).flatMap (gS G)=G:=by
 have:∀m,m<=256->(List.range m).flatMap (gS G)=G.take (m*88):=by
  intro m
  induction m with
  | zero=>intro _;rfl
  | succ m ih =>
   intro hm
   rw [List.range_succ,List.flatMap_append,ih oZ,List.flatMap_singleton,Nat.succ_mul,List.take_add];rfl
 rw [this 256 (Nat.le_refl _),List.take_of_length_le oZ]
theorem UE {no:Nat}{X:List UInt8}(hX:X.length=88)(eD:1<=no/\no<=281474976710656):gB (iZ no X)=true/\fv (iZ no X)=no/\Ks (iZ no X)=X:=by
 have jH:(J8 (aF (bU no X))).length=32:=ly _
 have e1:(iZ no X).drop 32=bU no X:=by unfold iZ;rw [List.drop_left' jH]
 have e2:fv (iZ no X)=no:=by
  unfold fv iZ bU
  exact bG _ _ no jH oZ
 have e3:Ks (iZ no X)=X:=by
  unfold Ks
  rw [show (40:Nat)=32+8 from rfl,<-List.drop_drop,e1]
  unfold bU
  rw [List.drop_left' (af ..),List.take_of_length_le oZ]
 refine ⟨?_,e2,e3⟩
 unfold gB
 rw [e1,e2,Bool.and_eq_true]
 refine ⟨decide_eq_true ?_,decide_eq_true eD⟩
 unfold iZ
 exact Cz (nn _) [] _ rfl
structure ez (R:Rk)(w no:Nat)(G:List UInt8):Prop where
 len:G.length=22528
 sec:∀k,k<256->∃s:eG,(∀i,i<w->R.now i (18+k)=s)/\((gB s=true/\fv s<no/\Ks s=gS G k)\/(gB s=false/\gS G k=List.replicate 88 0))
section
variable {ls:List (Option Lv)}(hI:wC ls){R:Rk}{no n:Nat}{G:List UInt8}
include hI
theorem ez.tO (h:ez R ls.length no G)(hw:1<=ls.length)(bZ:R.off=false){k:Nat}(hk:k<256):tO R ls k=gS G k:=by
 obtain ⟨s,h1,h2⟩:=h.sec k hk
 have key:∀j,j<=ls.length->qh R ls k j=if gB s=true/\0<j then (fv s,Ks s) else (0,List.replicate 88 0):=by
  intro j
  induction j with
  | zero=>intro _;rw [if_neg oZ];rfl
  | succ j ih =>
   intro hj
   obtain ⟨x,hx,u7⟩:=hI j oZ
   rw [wy hx,ih oZ,u7,h1 j oZ,wx]
   by_cases c:gB s=true
   ·have:=Aw c
    rw [if_pos (show gB s=true/\0<j+1 from ⟨c,by omega⟩)]
    by_cases c2:0<j
    ·rw [if_pos (show gB s=true/\0<j from ⟨c,c2⟩)];simp
    ·rw [if_neg (show ¬(gB s=true/\0<j) from fun h=>c2 h.2),c,decide_eq_true (show 0<fv s by omega)];rfl
   ·simp only [c,false_and,if_false,Bool.false_and,Bool.false_eq_true]
 unfold Go.Sl.tO
 rw [bZ,if_neg (by simp),key _ (Nat.le_refl _)]
 rcases h2 with ⟨a,b,c⟩ | ⟨a,b⟩
 ·rw [if_pos ⟨a,by omega⟩];exact c
 ·rw [if_neg (by rw [a];simp)];exact b.symm
theorem ez.all (h:ez R ls.length no G)(hw:1<=ls.length)(bZ:R.off=false):aX R ls=G:=by
 have e:aX R ls=(List.range 256).flatMap (gS G):=by
  unfold aX
  have:∀m,m<=256->(List.range m).flatMap (Go.Sl.tO R ls)=(List.range m).flatMap (gS G):=by
   intro m
   induction m with
   | zero=>intro _;rfl
   | succ m ih=>intro hm;rw [List.range_succ,List.flatMap_append,List.flatMap_append,ih oZ,List.flatMap_singleton,List.flatMap_singleton,h.tO hI hw bZ oZ]
  exact this _ (Nat.le_refl _)
 rw [e,ZO h.len]
structure Jf (R R':Rk):Prop where
 on:R'.on
 now:∀i a,(a<18\/274<=a)->R'.now i a=R.now i a
 pl:∀i a,R'.pl i a=R.pl i a
 size:∀i,R'.size i=R.size i
 live:∀i,R'.live i↔R.live i
theorem Jg (hw:1<=ls.length/\ls.length<=5):∀(m:Nat) (R:Rk) (no:Nat) (G:List UInt8) (a:Nat) (b:List UInt8),R.on->(∀i,i<ls.length->324<=R.size i)->ez R ls.length no G->a+b.length<=22528->b.length<=m->1<=no->no+m<=281474976710656 ->
  Jf R (bP ls m R no a b).1/\ez (bP ls m R no a b).1 ls.length (bP ls m R no a b).2 (sL G a b)/\no<=(bP ls m R no a b).2/\(bP ls m R no a b).2<=no+m/\(bP ls m R no a b).1.ws.length<=R.ws.length+5*m:=by
 have h0:∀(R:Rk) (no:Nat) (G:List UInt8) (a:Nat) (m:Nat),R.on->ez R ls.length no G->Jf R R/\ez R ls.length no (sL G a [])/\no<=no/\no<=no+m/\R.ws.length<=R.ws.length+5*m:=fun R no G a m bZ hG=>by
  have e:sL G a []=G:=by simp [sL]
  rw [e]
  exact ⟨⟨bZ,fun _ _ _=>rfl,fun _ _=>rfl,fun _=>rfl,fun _=>Iff.rfl⟩,hG,Nat.le_refl _,by omega,by omega⟩
 intro m
 induction m with
 | zero =>
  intro R no G a b bZ bu hG ha hb h1 h2
  obtain rfl:=List.eq_nil_of_length_eq_zero (show b.length=0 by omega)
  exact h0 R no G a 0 bZ hG
 | succ m ih =>
  intro R no G a b bZ bu hG ha hb h1 h2
  unfold bP
  by_cases W4:b=[]
  ·subst W4
   rw [if_pos rfl]
   exact h0 R no G a _ bZ hG
  ·rw [if_neg W4]
   have I8:0<b.length:=List.length_pos_iff.2 W4
   have hk:a / 88<256:=by omega
   have Mt:=Nat.mod_lt a (show 0<88 by omega)
   rw [hG.tO hI hw.1 bZ.2 hk]
   obtain ⟨c,hc⟩:∃c,c=min b.length (88 - a % 88):=⟨_,rfl⟩
   obtain ⟨X,hX⟩:∃X,X=ot (gS G (a / 88)) (a % 88) b:=⟨_,rfl⟩
   have hXl:X.length=88:=by rw [hX];exact yI (Qn hG.len hk) Mt
   obtain ⟨R',MH⟩:∃R',R'=R.run (upto (jM ls (a / 88) no X) ls.length):=⟨_,rfl⟩
   rw [<-hX,<-hc,<-MH]
   have ZP:R'.on:=by rw [MH];exact bZ.run _
   simp only [ZP.2,Bool.false_eq_true,if_false]
   have qO:(b.take c).length=c:=by rw [List.length_take];omega
   have Gv:Jf R R':=⟨ZP,fun i x hx=>by rw [MH];exact bJ fun s hs=>by have:=(tP hI).1 hs;omega,fun i x=>by rw [MH];exact Hg fun d=>Ql,fun i=>by rw [MH,Rk.dj],fun i=>by rw [MH];exact Rk.eh ..⟩
   have aez:ez R' ls.length (no+1) (sL G a (b.take c)):=by
    refine ⟨by rw [AK (by rw [qO,hG.len];omega),hG.len],fun k Sc => ?_⟩
    rw [ZN hG.len ha hc Sc]
    by_cases ck:k=a / 88
    ·subst ck
     obtain ⟨g1,g2,g3⟩:=UE hXl (no:=no) ⟨h1,by omega⟩
     refine ⟨iZ no X,fun i hi => ?_,.inl ⟨g1,by omega,by rw [if_pos rfl,g3,hX]⟩⟩
     rw [MH]
     exact hY bZ (by have:=bu i hi;omega) (fun b' JC=>((tP hI).1 JC).2.1) ((tP hI).2 ⟨hi,rfl,rfl⟩)
    ·obtain ⟨s,g1,g2⟩:=hG.sec k Sc
     rw [if_neg ck]
     refine ⟨s,fun i hi => ?_, ?_⟩
     ·rw [MH,bJ fun s hs=>by have:=(tP hI).1 hs;omega]
      exact g1 i hi
     ·rcases g2 with ⟨a1,a2,a3⟩ | g2
      ·exact .inl ⟨a1,by omega,a3⟩
      ·exact .inr g2
   have yo:R'.ws.length<=R.ws.length+5:=by
    have e1:=Rk.iL R (upto (jM ls (a / 88) no X) ls.length)
    have e2:=cV (f:=jM ls (a / 88) no X) (c:=1) (Ej ls _ _ _) ls.length
    rw [<-MH] at e1
    omega
   have s7:(b.drop c).length=b.length - c:=List.length_drop ..
   obtain ⟨i1,i2,i3,i4,i5⟩:=ih R' (no+1) (sL G a (b.take c)) (a+c) (b.drop c) ZP (fun i hi=>by rw [Gv.size];exact bu i hi) aez oZ oZ oZ oZ
   rw [UD (by rw [hG.len];omega) oZ] at i2
   refine ⟨⟨i1.on,fun i x hx=>by rw [i1.now i x hx,Gv.now i x hx],fun i x=>by rw [i1.pl,Gv.pl],fun i=>by rw [i1.size,Gv.size],fun i=>(i1.live i).trans (Gv.live i)⟩,i2,by omega,by omega,by omega⟩
end
def au.nv (o:au):au:={ o with v:=.int .i64 0 }
theorem ZQ {G b:List UInt8}{r:List Value}{x m:Nat}(hG:G.length=22528)(hb:b.length=m)(h:x+m<=22528):(ak G++r).take x++(ak b).take (min m (22528 - x))++(ak G++r).drop (x+min m (22528 - x))=ak (sL G x b)++r:=by
 have hl:(ak G).length=22528:=by rw [ai,hG]
 have CV:(ak b).take m=ak b:=List.take_of_length_le (by rw [ai];omega)
 rw [Nat.min_eq_left oZ,CV,List.take_append_of_le_length oZ,List.drop_append_of_le_length oZ,aL,aY,<-List.append_assoc,<-aE,<-aE,<-hb];rfl
end Go.Sl
namespace Go.Proofs.YteldablklnfblaaGreatDoor
open Go.Sl
set_option maxRecDepth 10000
set_option maxHeartbeats 4000000
section
variable (a:Nat)(vL:Value)(txg note room:Nat)(G:List UInt8)(ZR:G.length=22528)(adG:Option Addr)(cG:Nat)(DG:Chunk)(hG:az DG 5 1 (.slice adG 22528 cG) 22528 (ak G))(vS:Value)
theorem Hi (x:Int)(gh:Option Addr)(m cb:Nat)(h:x<0\/22528<x\/22528 - x<m):Ct 53 [ptr a,.int .i64 x,.slice gh m cb] [[(a,eM vL txg note room (.slice adG 22528 cG) vS)]] fun u Bs=>u = .int .i64 1/\Bs=[[(a,eM vL txg note room (.slice adG 22528 cG) vS)]]:=by
 refine st Tryz.func53 fun w0 => ?_
 by_cases h1:x<0
 ·refine gz ?_
  exact fin ⟨rfl,rfl⟩ aa
 ·have h:=h.resolve_left h1
  by_cases h2:22528<x
  ·refine gz ?_
   exact fin ⟨rfl,rfl⟩ aa
  ·have h:=h.resolve_left h2
   have hs:IntKind.i64.wrap (22528 - x)=22528 - x:=IntWalk.i64_in _ oZ
   refine gz ?_
   exact fin ⟨rfl,rfl⟩ aa
theorem Hj (x y:Int)(h:x<0\/y<0\/22528<x\/22528 - x<y):Ct 62 [ptr a,.int .i64 x,.int .i64 y] [[(a,eM vL txg note room (.slice adG 22528 cG) vS)]] fun u Bs=>u = .tuple #[.slice none 0 0,.int .i64 1]/\Bs=[[(a,eM vL txg note room (.slice adG 22528 cG) vS)]]:=by
 refine st Tryz.func62 fun w0 => ?_
 by_cases h1:x<0
 ·refine gz ?_
  exact fin ⟨rfl,rfl⟩ aa
 ·have h:=h.resolve_left h1
  by_cases h2:y<0
  ·refine gz ?_
   exact fin ⟨rfl,rfl⟩ aa
  ·have h:=h.resolve_left h2
   by_cases h3:22528<x
   ·refine gz ?_
    exact fin ⟨rfl,rfl⟩ aa
   ·have h:=h.resolve_left h3
    have hs:IntKind.i64.wrap (22528 - x)=22528 - x:=IntWalk.i64_in _ oZ
    refine gz ?_
    exact fin ⟨rfl,rfl⟩ aa
include hG
theorem Qo:Ct 117 [ptr a] [[(a,eM vL txg note room (.slice adG 22528 cG) vS)],DG] fun _ Bs=>∃bI cS DS,az DS 5 1 (.slice bI 22528 cS) 22528 (ak G)/\Bs=[[(a,eM vL txg note room (.slice adG 22528 cG) (.slice bI 22528 cS))],DG,DS]:=by
 have UF:=hG.rd
 refine st Tryz.func117 fun w0 => ?_
 refine gp ?_;intro bI cS DS UG
 refine gz ?_
 exact fin ⟨bI,cS,DS,UG,rfl⟩ aa
theorem Qp (x m:Nat)(h:x+m<=22528):Ct 62 [ptr a,.int .i64 x,.int .i64 m] [[(a,eM vL txg note room (.slice adG 22528 cG) vS)],DG] fun u Bs=>∃ba c',u = .tuple #[.slice ba m c',.int .i64 0]/\Rd DG 1 (.slice ba m c') m (ak ((G.drop x).take m))/\Bs=[[(a,eM vL txg note room (.slice adG 22528 cG) vS)],DG]:=by
 have UF:=hG.rd
 have abx:=hG.dN
 have hs:IntKind.i64.wrap (22528 - (x:Int))=((22528 - x:Nat):Int):=by rw [IntWalk.i64_in _ oZ];omega
 have ou:((ak G).drop (x*1)).take ((x+m - x)*1)=ak ((G.drop x).take m):=by rw [Nat.mul_one,Nat.mul_one,aY,aL,Nat.add_sub_cancel_left]
 have hn:x+m - x=m:=Nat.add_sub_cancel_left ..
 refine st Tryz.func62 fun w0 => ?_
 refine gw ?_;intro fL zK
 refine gz ?_
 exact fin ⟨fL,_,rfl,zK,rfl⟩ aa
include ZR in
theorem Qq (x:Nat)(b:List UInt8)(m:Nat)(hm:b.length=m)(h:x+m<=22528)(B:Chunk)(gh:Option Addr)(cb:Nat)(hB:Rd B 1 (.slice gh m cb) m (ak b)):Ct 53 [ptr a,.int .i64 x,.slice gh m cb] [[(a,eM vL txg note room (.slice adG 22528 cG) vS)],DG,B] fun u Bs=>u = .int .i64 0/\∃wD,az wD 5 1 (.slice adG 22528 cG) 22528 (ak (sL G x b))/\Bs=[[(a,eM vL txg note room (.slice adG 22528 cG) vS)],wD,B]:=by
 obtain ⟨g,c2,r,hv,rfl,Gm,lV,tz⟩:=hG.opened oZ
 cases hv
 rw [ai,ZR] at tz
 have GO:(sL G x b).length=22528:=by rw [AK oZ,ZR]
 have hs:IntKind.i64.wrap (22528 - (x:Int))=((22528 - x:Nat):Int):=by rw [IntWalk.i64_in _ oZ];omega
 have zV:=ZQ (r:=r) ZR hm h
 have iM:(ak G++r).length=22528+r.length:=by rw [List.length_append,ai,ZR]
 refine st Tryz.func53 fun w0 => ?_
 by_cases hx:x<cG\/x=0
 case' pos =>
  refine gv ?_
  refine gy ?_
 case' neg =>
  have I8:b=[]:=List.eq_nil_of_length_eq_zero oZ
  have zV:(ak G++r).take 0++(ak b).take (min m 0)++(ak G++r).drop (0+min m 0)=ak (sL G x b)++r:=by
   rw [I8,Nat.min_zero];simp [sL]
  refine gve ?_
  refine gy ?_
 all_goals
  refine gz ?_
  exact fin ⟨rfl,_,⟨by rw [ai,GO],aK _,.inr ⟨g,cG,r,rfl,rfl,Gm,lV,by rw [ai,GO];exact tz⟩⟩,rfl⟩ aa
end
theorem UH (room:Nat):Ct 14 [.int .i64 room] [] fun u Bs=>∃a g1 g2,u=ptr a/\Bs=[[(a,eM (.slice none 0 0) 1 0 room (.slice (some ⟨g1,0,none⟩) 22528 22528) (.slice (some ⟨g2,0,none⟩) 22528 22528))],[(g1,ax (ak (List.replicate 22528 0)) 5)],[(g2,ax (ak (List.replicate 22528 0)) 5)]]:=by
 refine st Tryz.func14 fun w0 => ?_
 refine gdo (aA.cons (0,0) (aA.fork 1 (aA.y7 [(2,1),(3,0),(4,3),(5,2)]) 2 (aA.y7 [(1,1),(3,0),(4,3),(5,2)]))) ?_
 refine gk ?_ ?_
 case' refine_1 =>
  refine gm ?_;intro g1
  refine gm ?_;intro g2
 case' refine_2 =>
  refine gm ?_;intro g2
  refine gm ?_;intro g1
 all_goals
  rw [OJ 22528]
  refine ga ?_;intro a
  refine gz ?_
  exact fin ⟨a,g1,g2,rfl,rfl⟩ aa
theorem wE (a:Nat)(l:List au)(aQ:mO l)(txg note room:Nat)(G S:List UInt8)(adG:Option Addr)(cG:Nat)(DG:Chunk)(hG:Rd DG 1 (.slice adG 22528 cG) 22528 (ak G))(bI:Option Addr)(cS:Nat)(DS:Chunk)(hS:Rd DS 1 (.slice bI 22528 cS) 22528 (ak S))(ad:Option Addr)(c:Nat)(D O:Chunk)(hD:Rd D 130 (.slice ad l.length c) l.length (l.flatMap au.lay))(hO:Ed O l) :
  Ct 15 [ptr a] [[(a,eM (.slice ad l.length c) txg note room (.slice adG 22528 cG) (.slice bI 22528 cS))],D,O,DG,DS] fun u Bs=>∃a' l' ba c' D' E kX yO wD kg xL AM,u=ptr a'/\l'.map au.nv=l.map au.nv/\az D' 72 130 (.slice ba l'.length c') l'.length (l'.flatMap au.lay)/\Ed E l'/\az wD 5 1 (.slice kX 22528 yO) 22528 (ak G)/\az AM 5 1 (.slice kg 22528 xL) 22528 (ak S) /\
   Bs=[[(a',eM (.slice ba l'.length c') txg note room (.slice kX 22528 yO) (.slice kg 22528 xL))],D',E,wD,AM,[(a,eM (.slice ad l.length c) txg note room (.slice adG 22528 cG) (.slice bI 22528 cS))],D,O,DG,DS]:=by
 have nP:=aQ.jY
 refine st Tryz.func15 fun w0 => ?_
 refine gd [0,4,8,12,16,20,24,28,32,36,40,44,48,52,56,60,68,72,76,80,65,85,88,95,98] ?_
 refine gp ?_;intro kX yO wD xE
 refine gp ?_;intro kg xL AM sh
 refine ga ?_;intro a'
 refine gl [0,3] (fun ((i,_):Nat×List au×Option Addr×Nat×Chunk×Chunk)=>[(4,.int .i64 i)]) (fun (_,L,ba,c',D',E)=>[[(a',eM (.slice ba L.length c') txg note room (.slice kX 22528 yO) (.slice kg 22528 xL))],D',E]) (fun (i,L,ba,c',D',E)=>i<=l.length/\L.length=i/\L.map au.nv=(l.take i).map au.nv/\az D' 72 130 (.slice ba L.length c') L.length (L.flatMap au.lay)/\Ed E L) (fun (i,_)=>l.length - i) (0,[],none,0,[],[]) ⟨by omega,rfl,rfl,az.nil _ _,fun _ h=>by cases h⟩ ?_
 rintro ⟨i,L,ba,c',D',E⟩ ⟨hi,hL,hLm,eo,hE⟩
 refine gi ?_ ?_ <;> intro bo
 ·have bm:i<l.length:=by omega
  obtain ⟨o,ho⟩:∃o,l[i]? = some o:=⟨_,List.getElem?_eq_getElem bm⟩
  have qR:=List.mem_of_getElem? ho
  have Bm:=aQ.sm o qR
  obtain ⟨⟨j8,cv,hv,R3⟩,MG⟩:=hO o qR
  rw [hv] at MG
  obtain ⟨gD,off,rfl⟩:=hD.addr oZ
  have hs:=ar au.aj l i o ho
  have GO:=o.aj
  have fG:=o.bC (by rw [hv];rfl)
  have XO:o.lay[1]? = some (.slice j8 o.b.length cv):=by rw [<-hv];exact au.rM _
  refine ga ?_;intro b5
  refine gp ?_;intro AH cE F hF
  have e1:o.lay.set 1 (.slice AH o.b.length cE)=({ o with v:=.slice AH o.b.length cE }:au).lay:=au.Ul _ _
  have Mo:=({ o with v:=.slice AH o.b.length cE }:au).aj
  have eD:=({ o with v:=.slice AH o.b.length cE }:au).bC rfl
  refine go ?_
  rw [e1]
  refine qM [[(b5,ax ({ o with v:=.slice AH o.b.length cE }:au).lay 72)],[(a',eM (.slice ba L.length c') txg note room (.slice kX 22528 yO) (.slice kg 22528 xL))]] [0,4,8,12,16,20,25,29,32,36,43] ?_
  refine gm ?_;intro b56
  have af7:Rd [(b56,ax ({ o with v:=.slice AH o.b.length cE }:au).lay 72)] 130 (.slice (some ⟨b56,0,none⟩) 1 1) 1 ({ o with v:=.slice AH o.b.length cE }:au).lay:=av (by rw [Mo]) eD (by simp) _
  refine gp ?_;intro ad2 c2 D2 Ci
  have jj:(L++[{ o with v:=.slice AH o.b.length cE }]).length=L.length+1:=by simp
  refine gn ?_
  refine ⟨(i+1,L++[{ o with v:=.slice AH o.b.length cE }],ad2,c2,D2,E++F),⟨by omega,by rw [jj,hL], ?_,by rw [jj];simpa using Ci,fun q hq => ?_⟩,by simp only;omega,aq,_,by simp only [jj];exact aa⟩
  ·rw [aG l bm,List.map_append,List.map_append,hLm]
   have e:l[i]=o:=(List.getElem?_eq_some_iff.1 ho).2
   rw [e];rfl
  ·rcases List.mem_append.1 hq with hq | hq
   ·exact ⟨(hE q hq).1,(hE q hq).2.sub fun y hy=>List.mem_append_left _ hy⟩
   ·rw [List.mem_singleton.1 hq]
    exact ⟨⟨AH,cE,rfl,hF.dN⟩,hF.rd.sub fun y hy=>List.mem_append_right _ hy⟩
 ·obtain rfl:i=l.length:=by omega
  rw [List.take_length] at hLm
  refine gz ?_
  exact fin ⟨a',L,ba,c',D',E,kX,yO,wD,kg,xL,AM,rfl,hLm,eo,hE,xE,sh,rfl⟩ aa
theorem Qr (jB:Option Addr)(w cq:Nat)(K C Q:Chunk)(P1:Nat->Chunk->Prop)(himp:Ct 19 [.slice jB w cq] [K,C,Q] fun u Bs=>∃t V,u = .tuple #[ptr t,.int .i64 0]/\P1 t V/\Bs=[V,K,C,Q])
  (P2:Nat->Chunk->Chunk->Chunk->Chunk->Chunk->Chunk->Chunk->Chunk->Prop) (mu:∀t V,P1 t V->Ct 20 [ptr t] [K,C,V] fun u Bs=>∃s b0 b1 b2 b3 b4 b5 b6 b7,u = .tuple #[ptr s,.int .i64 0]/\P2 s b0 b1 b2 b3 b4 b5 b6 b7/\Bs=[b0,K,b1,b2,b3,b4,b5,b6,b7]) :
  Ct 7 [.slice jB w cq] [K,C,Q] fun u Bs=>∃s b0 b1 b2 b3 b4 b5 b6 b7,u = .tuple #[ptr s,.bool true]/\P2 s b0 b1 b2 b3 b4 b5 b6 b7/\Bs=[b0,K,b1,b2,b3,b4,b5,b6,b7,Q]:=by
 refine st Tryz.func7 fun w0 => ?_
 refine gc himp ?_
 rintro _ _ ⟨t,V,rfl,h1,rfl⟩
 refine gc (mu t V h1) ?_
 rintro _ _ ⟨s,b0,b1,b2,b3,b4,b5,b6,b7,rfl,h2,rfl⟩
 refine gz ?_
 exact fin ⟨s,b0,b1,b2,b3,b4,b5,b6,b7,rfl,h2,rfl⟩ aa
abbrev l7 (p:Nat)(vQ:Value)(s a d:Nat):Obj:=ax [ptr p,vQ,ptr s,ptr a,ptr d] 41
theorem Lx (rg p s a d:Nat)(vQ:Value)(vL vL':Value)(txg note room ab0 dT W9:Nat)(vS vG' vS':Value)(adG:Option Addr)(cG:Nat)(DG:Chunk)(G:List UInt8)(hG:Rd DG 1 (.slice adG 22528 cG) 22528 (ak G))(hf:Ct 117 [ptr a] [[(a,eM vL txg note room (.slice adG 22528 cG) vS)],DG] fun _ Bs=>∃bI cS DS,az DS 5 1 (.slice bI 22528 cS) 22528 (ak G)/\Bs=[[(a,eM vL txg note room (.slice adG 22528 cG) (.slice bI 22528 cS))],DG,DS]) :
  Ct 54 [ptr rg] [[(rg,l7 p vQ s a d)],[(a,eM vL txg note room (.slice adG 22528 cG) vS)],DG,[(d,eM vL' ab0 dT W9 vG' vS')]] fun _ Bs=>∃bI cS DS fV cT DT,az DS 5 1 (.slice bI 22528 cS) 22528 (ak G)/\az DT 5 1 (.slice fV 22528 cT) 22528 (ak G) /\
   Bs=[[(rg,l7 p vQ s a d)],[(a,eM vL txg note room (.slice adG 22528 cG) (.slice bI 22528 cS))],DG,DS,[(d,eM vL' ab0 dT W9 vG' (.slice fV 22528 cT))],DT]:=by
 refine st Tryz.func54 fun w0 => ?_
 refine gc hf ?_
 rintro _ _ ⟨bI,cS,DS,hS,rfl⟩
 refine gd [0,4,8,12,16,20,24,28,32,36,40,45,48,52,59] ?_
 refine gp ?_;intro fV cT DT hT
 refine gz ?_
 exact fin ⟨bI,cS,DS,fV,cT,DT,hS,hT,rfl⟩ aa
theorem UI (rg p s a d w cq:Nat)(jB:Option Addr)(K C Q:Chunk)(P0:Chunk->Prop)(nE:Ct 41 [ptr p,.slice none 0 0] [C] fun _ Bs=>∃C',P0 C'/\Bs=[C'])
  (P1:Chunk->Nat->Chunk->Prop) (himp:∀C',P0 C'->Ct 19 [.slice jB w cq] [K,C',Q] fun u Bs=>∃t V,u = .tuple #[ptr t,.int .i64 0]/\P1 C' t V/\Bs=[V,K,C',Q])
  (P2:Nat->Chunk->Chunk->Chunk->Chunk->Chunk->Chunk->Chunk->Chunk->Prop) (mu:∀C' t V,P1 C' t V->Ct 20 [ptr t] [K,C',V] fun u Bs=>∃s b0 b1 b2 b3 b4 b5 b6 b7,u = .tuple #[ptr s,.int .i64 0]/\P2 s b0 b1 b2 b3 b4 b5 b6 b7/\Bs=[b0,K,b1,b2,b3,b4,b5,b6,b7])
  (l:List au) (aQ:mO l) (txg note room:Nat) (G S:List UInt8) (adG:Option Addr) (cG:Nat) (DG:Chunk) (hG:Rd DG 1 (.slice adG 22528 cG) 22528 (ak G)) (bI:Option Addr) (cS:Nat) (DS:Chunk) (hS:Rd DS 1 (.slice bI 22528 cS) 22528 (ak S)) (ad:Option Addr) (c:Nat) (D O:Chunk) (hD:Rd D 130 (.slice ad l.length c) l.length (l.flatMap au.lay)) (hO:Ed O l) :
  Ct 16 [ptr rg] [[(rg,l7 p (.slice jB w cq) s a d)],K,C,Q,[(d,eM (.slice ad l.length c) txg note room (.slice adG 22528 cG) (.slice bI 22528 cS))],D,O,DG,DS] fun u Bs=>u = .bool true/\∃s' b0 b1 b2 b3 b4 b5 b6 b7 a' l' ba c' D' E kX yO wD kg xL AM,P2 s' b0 b1 b2 b3 b4 b5 b6 b7/\l'.map au.nv=l.map au.nv/\az D' 72 130 (.slice ba l'.length c') l'.length (l'.flatMap au.lay)/\Ed E l'/\az wD 5 1 (.slice kX 22528 yO) 22528 (ak S)/\az AM 5 1 (.slice kg 22528 xL) 22528 (ak S) /\
   Bs=[[(rg,l7 p (.slice jB w cq) s' a' d)],b0,K,b1,b2,b3,b4,b5,b6,b7,Q,[(a',eM (.slice ba l'.length c') txg note room (.slice kX 22528 yO) (.slice kg 22528 xL))],D',E,wD,AM,[(d,eM (.slice ad l.length c) txg note room (.slice adG 22528 cG) (.slice bI 22528 cS))],D,O,DG,DS]:=by
 refine st Tryz.func16 fun w0 => ?_
 refine gc nE ?_
 rintro _ _ ⟨C',h0,rfl⟩
 refine gc (himp C' h0) ?_
 rintro _ _ ⟨t,V,rfl,h1,rfl⟩
 refine gc (mu C' t V h1) ?_
 rintro _ _ ⟨s',b0,b1,b2,b3,b4,b5,b6,b7,rfl,h2,rfl⟩
 refine gc (wE d l aQ txg note room G S adG cG DG hG bI cS DS hS ad c D O hD hO) ?_
 rintro _ _ ⟨a',l',ba,c',D',E,kX,yO,wD,kg,xL,AM,rfl,hl,eo,hE,xE,sh,rfl⟩
 refine gd [0,4,8,12,16,21,24,28,35] ?_
 refine gp ?_;intro fV cT DT hT
 refine gz ?_
 exact fin ⟨rfl,s',b0,b1,b2,b3,b4,b5,b6,b7,a',l',ba,c',D',E,fV,cT,DT,kg,xL,AM,h2,hl,eo,hE,hT,sh,rfl⟩ aa
end Go.Proofs.YteldablklnfblaaGreatDoor
namespace Go.Sl
def qU (n:Nat):Nat->Rk
 | 0=>⟨[],[],none,false⟩
 | k+1=>(qU n k).add n
end Go.Sl
namespace Go.Proofs.YteldablklnfblaaGreatDoor
open Go.Sl
set_option maxRecDepth 10000
set_option maxHeartbeats 4000000
theorem UJ (tp:Tp)(pr:Bool)(n w:Nat)(ok:dK tp pr n w)(dE:n<=2048)(K O:Chunk)(IK:Option Addr)(co:Nat)(hO:az O 23 3 (.slice IK 1 co) 1 tp.lay)
  (P1:Nat->List Nat->Nat->Chunk->Chunk->Prop) (hcr:∀p qs C Q jB cq,qs.length=w->bq p qs (qU n w) C->Rd Q 1 (.slice jB w cq) w (qs.map ptr)->w<=cq->Ct 11 [.int .u64 11,.slice IK 1 co,.slice jB w cq] [K,C,O,Q] fun u Bs=>∃t V C',u = .tuple #[ptr t,.int .i64 0]/\P1 p qs t V C'/\Bs=[V,K,C',O,Q])
  (eD:bD pr w n / aN pr w 1024 / 4<10->∀p qs t V C',P1 p qs t V C'->Ct 12 [ptr t] [K,C',V] fun v Bs=>v = .tuple #[.pointer none,.int .i64 3]/\Bs=[K,C',V])
  (P2:Nat->List Nat->Nat->Chunk->Chunk->Chunk->Chunk->Chunk->Chunk->Prop) (hnw:10<=bD pr w n / aN pr w 1024 / 4->∀p qs t V C',P1 p qs t V C'->Ct 12 [ptr t] [K,C',V] fun v Bs=>∃s b0 b1 b2 b3 b4 b5,v = .tuple #[ptr s,.int .i64 0]/\P2 p qs s b0 b1 b2 b3 b4 b5/\Bs=[b0,K,b1,b2,b3,b4,b5]) :
  Ct 5 [.slice IK 1 co] [K,O] fun u Bs=>(bD pr w n / aN pr w 1024 / 4<10/\(∃x,u = .tuple #[x,.bool false,.bool true])/\Bs=[K,O]) \/
   10<=bD pr w n / aN pr w 1024 / 4/\∃rg p qs jB cq Q s b0 b1 b2 b3 b4 b5 a adG cG DG bI cS DS d ba c' D' E kX yO wD kg xL AM,u = .tuple #[ptr rg,.bool true,.bool true]/\qs.length=w/\az Q 46 1 (.slice jB w cq) w (qs.map ptr)/\P2 p qs s b0 b1 b2 b3 b4 b5 /\
    az DG 5 1 (.slice adG 22528 cG) 22528 (ak (List.replicate 22528 0))/\az DS 5 1 (.slice bI 22528 cS) 22528 (ak (List.replicate 22528 0))/\az D' 72 130 (.slice ba 0 c') 0 []/\az wD 5 1 (.slice kX 22528 yO) 22528 (ak (List.replicate 22528 0))/\az AM 5 1 (.slice kg 22528 xL) 22528 (ak (List.replicate 22528 0)) /\
    Bs=[[(rg,l7 p (.slice jB w cq) s a d)],b0,K,b1,b2,b3,b4,b5,O,Q,[(a,eM (.slice none 0 0) 1 0 (bD pr w n / aN pr w 1024 / 4 - 10) (.slice adG 22528 cG) (.slice bI 22528 cS))],DG,DS,[(d,eM (.slice ba 0 c') 1 0 (bD pr w n / aN pr w 1024 / 4 - 10) (.slice kX 22528 yO) (.slice kg 22528 xL))],D',E,wD,AM]:=by
 have hOr:=hO.rd
 have hrm:=Uz tp pr n w ok dE O IK co hOr
 have hw:=ok.hw
 have hn:=ok.hn
 have hz:=iB pr ok.hw ⟨ok.hn.1,dE⟩
 have hq2:bD pr w n / aN pr w 1024 / 4<=10240:=Nat.le_trans (Nat.div_le_self _ _) (Nat.le_trans (Nat.div_le_self _ _) hz.2)
 generalize bD pr w n / aN pr w 1024 / 4=q at *
 obtain ⟨gO,oO,rfl⟩:=hOr.addr oZ
 have hs:Sub (0*3) tp.lay tp.lay:=ar Tp.aj [tp] 0 tp rfl
 have xu:=hs 1 (.int .i64 (w:Nat)) (by rw [ok.ht];rfl)
 have lX:=hs 2 (.int .i64 (n:Nat)) (by rw [ok.ht];rfl)
 refine st Tryz.func5 fun w0 => ?_
 refine gc GU ?_
 rintro _ _ ⟨p,C,rfl,hC,rfl⟩
 refine ga ?_;intro rg
 refine gl [0,5] (fun ((i,_):Nat×List Nat×Value×Chunk×Chunk)=>[(6,.int .i64 i)]) (fun (_,_,vQ,Q,C)=>[[(rg,ax [ptr p,vQ,.pointer none,.pointer none,.pointer none] 41)],Q,C]) (fun (i,qs,vQ,Q,C)=>i<=1/\qs.length=i*w/\az Q 46 1 vQ qs.length (qs.map ptr)/\bq p qs (qU n qs.length) C) (fun (i,_)=>1 - i) (0,[],.slice none 0 0,[],C) ⟨by omega,by simp,az.nil _ _,hC⟩ ?_
 clear hC
 rintro ⟨i,qs,vQ,Q,C⟩ ⟨hi,Au,hQ,hC⟩
 refine gi ?_ ?_ <;> intro bo
 ·obtain rfl:i=0:=by omega
  refine gl [0,5,6] (fun ((i,_):Nat×List Nat×Value×Chunk×Chunk)=>[(7,.int .i64 i)]) (fun (_,_,vQ,Q,C)=>[[(rg,ax [ptr p,vQ,.pointer none,.pointer none,.pointer none] 41)],Q,C]) (fun (i,qs,vQ,Q,C)=>i<=w/\qs.length=i/\az Q 46 1 vQ qs.length (qs.map ptr)/\bq p qs (qU n qs.length) C) (fun (i,_)=>w - i) (0,qs,vQ,Q,C) ⟨by omega,by omega,hQ,hC⟩ ?_
  clear hQ hC Au
  rintro ⟨k,qs,vQ,Q,C⟩ ⟨hk,rfl,hQ,hC⟩
  refine gg ?_ ?_ <;> intro pL
  ·refine gd [0,4,8,12,16,20,24,28,32,39,42,46,50,54,58] ?_
   refine gc (Zn p qs _ C hC n oZ oZ) ?_
   rintro _ _ ⟨q',C',rfl,bA,rfl⟩
   refine gm ?_;intro b69
   refine gp ?_;intro fL c3 Q3 hQ3
   refine gn ?_
   exact ⟨(qs.length+1,qs++[q'],_,Q3,C'),⟨by omega,by simp,by simpa using hQ3,by rw [List.length_append];exact bA⟩,by simp only;omega,aq,_,aa⟩
  ·obtain rfl:qs.length=w:=by omega
   refine gn ?_
   exact ⟨(1,qs,vQ,Q,C),⟨by omega,by omega,hQ,hC⟩,by simp only;omega,aq,_,aa⟩
 ·obtain rfl:i=1:=by omega
  rw [Nat.one_mul] at Au
  subst Au
  obtain ⟨jB,cq,rfl⟩:=hQ.slice
  refine gc (hcr p qs C Q jB cq rfl hC hQ.rd (by have:=hQ.dN;omega)) ?_
  rintro _ _ ⟨t,V,C',rfl,h1,rfl⟩
  by_cases hlq:q<10
  ·refine gc (eD hlq p qs t V C' h1) ?_
   rintro _ _ ⟨rfl,rfl⟩
   refine gc hrm ?_
   rintro _ _ ⟨rfl,rfl⟩
   refine gz ?_
   exact fin (.inl ⟨hlq,⟨_,rfl⟩,rfl⟩) aa
  ·have hlq:10<=q:=by omega
   rw [show (q:Int) - 10=((q - 10:Nat):Int) by omega] at hrm
   refine gc (hnw hlq p qs t V C' h1) ?_
   rintro _ _ ⟨s,b0,b1,b2,b3,b4,b5,rfl,h2,rfl⟩
   refine gc hrm ?_
   rintro _ _ ⟨rfl,rfl⟩
   refine gc (UH (q - 10)) ?_
   rintro _ _ ⟨a,g1,g2,rfl,rfl⟩
   have hb:=fun g=>Zy (g:=g) (T:=5) (b:=List.replicate 22528 0) (List.length_replicate ..) oZ
   refine gc (wE a [] ⟨by simp,by simp,by simp⟩ 1 0 (q - 10) (List.replicate 22528 0) (List.replicate 22528 0) (some ⟨g1,0,none⟩) 22528 _ (hb g1).rd (some ⟨g2,0,none⟩) 22528 _ (hb g2).rd none 0 [] [] (Rd.nil [] 130) (by simp [Ed])) ?_
   rintro _ _ ⟨d,l',ba,c',D',E,kX,yO,wD,kg,xL,AM,rfl,hl,eo, -,xE,sh,rfl⟩
   obtain rfl:l'=[]:=by cases l' with
    | nil=>rfl
    | cons x r=>simp at hl
   refine gz ?_
   exact fin (.inr ⟨hlq,rg,p,qs,jB,cq,Q,s,b0,b1,b2,b3,b4,b5,a,_,_,_,_,_,_,d,ba,c',D',E,kX,yO,wD,kg,xL,AM,rfl,rfl,hQ,h2,hb g1,hb g2,eo,xE,sh,rfl⟩) aa
theorem Ct.on {g:FuncId}{args:List Value}{As Ls:List Chunk}{Rs:Chunk}{P P':Value->List Chunk->Prop}(h:Ct g args As P)(s:Ls.flatten.Perm (As.flatten++Rs))(k:∀u Bs,P u Bs->∃Cs Ds,P' u Cs/\(Bs.flatten++Rs).Perm (Cs.flatten++Ds)):Ct g args Ls P':=fun w H=>by
 have H1:Own w (As.flatten++Rs):=Own.perm H s
 refine (h w H1.left).mono fun u w' ⟨Bs,hp,ht⟩ => ?_
 obtain ⟨Cs,Ds,h1,h2⟩:=k u Bs hp
 exact ⟨Cs,h1,Tr.drop (C:=Ds) (Tr.perm (Tr.frame ht Rs) s h2)⟩
abbrev nR (o k z x y:Int)(nt:Nat)(b:Value):Value:=.agg #[.int .i64 o,.int .i64 k,.int .i64 z,.int .i64 x,.int .i64 y,.int .u64 nt,b]
abbrev opO (o k z x y:Int)(nt:Nat)(b:Value):Obj:=ax [.int .i64 o,.int .i64 k,.int .i64 z,.int .i64 x,.int .i64 y,.int .u64 nt,b] 33
section
variable (rg p s a d:Nat)(vQ:Value)(S M A:Chunk)(k z x y e:Int)(nt:Nat)(b:Value)(PS PM:Chunk->Prop)
theorem mS (hs:Ct 44 [ptr s,.int .i64 k,.int .i64 y] [S] fun u Bs=>u = .int .i64 e/\∃S',PS S'/\Bs=[S'])(hd:Ct 45 [ptr a,.int .i64 k,.int .i64 y] [M] fun u Bs=>u = .int .i64 e/\∃M',PM M'/\Bs=[M']) :
  Ct 17 [ptr rg,nR 1 k z x y nt b] [[(rg,l7 p vQ s a d)],S,M] fun u Bs=>u = .bool true/\∃S' M',PS S'/\PM M'/\Bs=[[(rg,l7 p vQ s a d)],S',M']:=by
 refine st Tryz.func17 fun w0 => ?_
 refine ga ?_;intro b3
 refine qM [[(rg,l7 p vQ s a d)],[(b3,opO 1 k z x y nt b)]] [0,4,8,12,16,20,24,28,36,40,44,48,52,56,60,64,33,71,74,78] ?_
 refine gc hs ?_
 rintro _ _ ⟨rfl,S',h1,rfl⟩
 refine gc hd ?_
 rintro _ _ ⟨rfl,M',h2,rfl⟩
 refine gz ?_
 exact fin ⟨by simp,S',M',h1,h2,rfl⟩ aa
theorem nG (hs:Ct 46 [ptr s,.int .i64 k,.int .i64 z] [S] fun u Bs=>u = .int .i64 e/\∃S',PS S'/\Bs=[S'])(hd:Ct 47 [ptr a,.int .i64 k,.int .i64 z] [M] fun u Bs=>u = .int .i64 e/\∃M',PM M'/\Bs=[M']) :
  Ct 17 [ptr rg,nR 2 k z x y nt b] [[(rg,l7 p vQ s a d)],S,M] fun u Bs=>u = .bool true/\∃S' M',PS S'/\PM M'/\Bs=[[(rg,l7 p vQ s a d)],S',M']:=by
 refine st Tryz.func17 fun w0 => ?_
 refine ga ?_;intro b3
 refine qM [[(rg,l7 p vQ s a d)],[(b3,opO 2 k z x y nt b)]] [0,4,8,12,16,20,24,28,36,40,44,48,52,56,60,64,33,71,74,78] ?_
 refine gc hs ?_
 rintro _ _ ⟨rfl,S',h1,rfl⟩
 refine gc hd ?_
 rintro _ _ ⟨rfl,M',h2,rfl⟩
 refine gz ?_
 exact fin ⟨by simp,S',M',h1,h2,rfl⟩ aa
theorem AN (hs:Ct 48 [ptr s,.int .i64 k] [S] fun u Bs=>u = .int .i64 e/\∃S',PS S'/\Bs=[S'])(hd:Ct 49 [ptr a,.int .i64 k] [M] fun u Bs=>u = .int .i64 e/\∃M',PM M'/\Bs=[M']) :
  Ct 17 [ptr rg,nR 3 k z x y nt b] [[(rg,l7 p vQ s a d)],S,M] fun u Bs=>u = .bool true/\∃S' M',PS S'/\PM M'/\Bs=[[(rg,l7 p vQ s a d)],S',M']:=by
 refine st Tryz.func17 fun w0 => ?_
 refine ga ?_;intro b3
 refine qM [[(rg,l7 p vQ s a d)],[(b3,opO 3 k z x y nt b)]] [0,4,8,12,16,20,28,32,36,40,44,48,25,55,58,62] ?_
 refine gc hs ?_
 rintro _ _ ⟨rfl,S',h1,rfl⟩
 refine gc hd ?_
 rintro _ _ ⟨rfl,M',h2,rfl⟩
 refine gz ?_
 exact fin ⟨by simp,S',M',h1,h2,rfl⟩ aa
end
end Go.Proofs.YteldablklnfblaaGreatDoor
namespace Go.Sl
structure Rg where
 p:Nat
 vQ:Value
 s:Nat
 a:Nat
 d:Nat
structure nS where
 o:Int
 k:Int
 z:Int
 x:Int
 y:Int
 nt:Nat
 b:Value
end Go.Sl
namespace Go.Proofs.YteldablklnfblaaGreatDoor
open Go.Sl
set_option maxRecDepth 10000
set_option maxHeartbeats 4000000
abbrev nS.agg (o:nS):Value:=nR o.o o.k o.z o.x o.y o.nt o.b
def nS.lay (o:nS):List Value:=[.int .i64 o.o,.int .i64 o.k,.int .i64 o.z,.int .i64 o.x,.int .i64 o.y,.int .u64 o.nt,o.b]
theorem nS.aj (o:nS):(nS.lay o).length=7:=rfl
abbrev Rg.ch (rg:Nat)(r:Rg):Chunk:=[(rg,l7 r.p r.vQ r.s r.a r.d)]
section
variable (rg:Nat)(r:Rg)(X A:Chunk)(k z x y:Int)(nt:Nat)(b:Value)(Inv Mid:Rg->Chunk->Prop)
theorem Hk (hc:Ct 16 [ptr rg] [Rg.ch rg r,X] fun u Bs=>u = .bool true/\∃r' X',Inv r' X'/\Bs=[Rg.ch rg r',X']) :
  Ct 6 [ptr rg,nR 8 k z x y nt b] [Rg.ch rg r,X] fun u Bs=>u = .bool true/\∃r' X',Inv r' X'/\Bs=[Rg.ch rg r',X']:=by
 refine st Tryz.func6 fun w0 => ?_
 refine ga ?_;intro b3
 refine gc hc ?_
 rintro _ _ ⟨rfl,r',X',h,rfl⟩
 refine gz ?_
 exact fin ⟨rfl,r',X',h,rfl⟩ aa
theorem yP (o:Int)(h8:o≠8)(hc:Ct 17 [ptr rg,nR o k z x y nt b] [Rg.ch rg r,X,A] fun u Bs=>u = .bool true/\∃r' X',Mid r' X'/\Bs=[Rg.ch rg r',X',A])
  (ha:∀r' X',Mid r' X'->Ct 18 [ptr rg,nR o k z x y nt b] [Rg.ch rg r',X'] fun u Bs=>u = .bool true/\∃r' X',Inv r' X'/\Bs=[Rg.ch rg r',X']) :
  Ct 6 [ptr rg,nR o k z x y nt b] [Rg.ch rg r,X,A] fun u Bs=>u = .bool true/\∃r' X',Inv r' X'/\Bs=[Rg.ch rg r',X',A]:=by
 refine st Tryz.func6 fun w0 => ?_
 refine ga ?_;intro b3
 refine gc hc ?_
 rintro _ _ ⟨rfl,r',X',h,rfl⟩
 refine gc (ha r' X' h) ?_
 rintro _ _ ⟨rfl,r2,X2,h2,rfl⟩
 refine gz ?_
 exact fin ⟨rfl,r2,X2,h2,rfl⟩ aa
end
theorem Qu (tp:Tp)(v:Value)(j:Int)(h:¬tp.qk\/j<1\/6<j):Ct 3 [tp.agg,v,.int .i64 j] [] fun u Bs=>u = .bool true/\Bs=[]:=by
 refine st Tryz.func3 fun w0 => ?_
 refine ga ?_;intro b3
 refine gc (I9 tp) ?_
 rintro _ _ ⟨rfl,rfl⟩
 refine go ?_
 by_cases hr:tp.qk
 ·rw [decide_eq_true hr]
  refine gg ?_ ?_ <;> intro h1
  ·refine gz ?_
   exact fin ⟨rfl,rfl⟩ aa
  ·have h6:6<j:=by
    rcases h with h | h | h
    ·exact absurd hr h
    ·omega
    ·exact h
   refine gz ?_
   exact fin ⟨rfl,rfl⟩ aa
 ·rw [decide_eq_false hr]
  refine gz ?_
  exact fin ⟨rfl,rfl⟩ aa
theorem Jh (tp:Tp)(hr:tp.qk)(j:Nat)(hj:1<=j/\j<=6)(K A:Chunk)(ops:List nS)(N:Nat)(ZS:ops.length=N)(hN:N<=1048576)(Se:Option Addr)(cO:Nat)(hA:Rd A 7 (.slice Se N cO) N (ops.flatMap nS.lay))
  (Inv:Nat->Nat->Rg->Chunk->Prop) (hb:∀O ad c,az O 23 3 (.slice ad 1 c) 1 tp.lay->Ct 5 [.slice ad 1 c] [K,O] fun u Bs=>(∃x,u = .tuple #[x,.bool false,.bool true])/\Bs=[K,O]\/∃rg r X,u = .tuple #[ptr rg,.bool true,.bool true]/\Inv 0 rg r X/\Bs=[Rg.ch rg r,X])
  (hd:∀i o rg r X,ops[i]? = some o->Inv i rg r X->Ct 6 [ptr rg,nS.agg o] [Rg.ch rg r,X,A] fun u Bs=>u = .bool true/\∃r' X',Inv (i+1) rg r' X'/\Bs=[Rg.ch rg r',X',A])
  (Fi:Nat->Nat->Rg->Chunk->Prop) (hl:∀rg r X,Inv N rg r X->Ct 6 [ptr rg,nR 7 0 0 0 0 4 (.slice none 0 0)] [Rg.ch rg r,X] fun u Bs=>u = .bool true/\∃r' X',Fi 0 rg r' X'/\Bs=[Rg.ch rg r',X'])
  (P1:Nat->Nat->Rg->Nat->Chunk->Prop) (h1:∀i rg r X,i<6->Fi i rg r X->Ct 7 [r.vQ] [X] fun u Bs=>∃s X',u = .tuple #[ptr s,.bool true]/\P1 i rg r s X'/\Bs=[X'])
  (P2:Nat->Nat->Rg->Nat->Nat->Chunk->Prop) (h2:∀i rg r s X,i<6->P1 i rg r s X->Ct 7 [r.vQ] [X] fun u Bs=>∃s' X',u = .tuple #[ptr s',.bool true]/\P2 i rg r s s' X'/\Bs=[X'])
  (h3:∀i rg r s s' X,P2 i rg r s s' X->Ct 8 [ptr s,ptr r.a] [X] fun u Bs=>u = .bool true/\Bs=[X])
  (h4:∀i rg r s s' X,P2 i rg r s s' X->Ct 8 [ptr s',ptr r.a] [X] fun u Bs=>u = .bool true/\Bs=[X])
  (h5:∀i rg r s s' X,P2 i rg r s s' X->Fi (i+1) rg r X) (hK:∀i rg r X,Fi i rg r X->∃B,X=K++B) :
  Ct 3 [tp.agg,.slice Se N cO,.int .i64 j] [K,A] fun u Bs=>u = .bool true/\∃Z,Bs=K :: A :: Z:=by
 refine st Tryz.func3 fun w0 => ?_
 refine ga ?_;intro b3
 refine gc (I9 tp) ?_
 rintro _ _ ⟨rfl,rfl⟩
 refine go ?_
 rw [decide_eq_true hr]
 refine gm ?_;intro b35
 have hO:az [(b35,ax tp.lay 23)] 23 3 (.slice (some ⟨b35,0,none⟩) 1 1) 1 tp.lay:=⟨rfl,tp.bC,.inr ⟨b35,1,[],rfl,by rw [List.append_nil],Nat.le_refl _,by decide,rfl⟩⟩
 refine gc (hb _ _ _ hO) ?_
 rintro _ _ (⟨⟨x,rfl⟩,rfl⟩ | ⟨rg,r,X,rfl,hX,rfl⟩)
 ·refine gz ?_
  exact fin ⟨rfl,[],rfl⟩ aa
 ·refine gl [1,2,6,8] (fun ((i,_):Nat×Rg×Chunk)=>[(11,.int .i64 i)]) (fun (_,r,X)=>[Rg.ch rg r,X]) (fun (i,r,X)=>i<=N/\Inv i rg r X) (fun (i,_)=>N - i) (0,r,X) ⟨by omega,hX⟩ ?_
  clear hX
  rintro ⟨i,r,X⟩ ⟨hi,hX⟩
  refine gi ?_ ?_ <;> intro bo
  ·have bm:i<ops.length:=by omega
   have hAr:=hA
   obtain ⟨g,off,rfl⟩:=hAr.addr oZ
   have hs:=ar nS.aj ops i ops[i] (by simp)
   refine gc (hd i ops[i] rg r X (by simp) hX) ?_
   rintro _ _ ⟨rfl,r',X',hX',rfl⟩
   refine gn ?_
   exact ⟨(i+1,r',X'),⟨by omega,hX'⟩,by simp only;omega,aq,_,aa⟩
  ·obtain rfl:i=N:=by omega
   refine gc (hl rg r X hX) ?_
   rintro _ _ ⟨rfl,r,X,hX,rfl⟩
   refine gl [2,6,8] (fun ((i,_):Nat×Chunk)=>[(14,.int .i64 i)]) (fun (_,X)=>[X]) (fun (i,X)=>i<=j/\Fi i rg r X) (fun (i,_)=>j - i) (0,X) ⟨by omega,hX⟩ ?_
   clear hX
   rintro ⟨i',X⟩ ⟨jh,hX⟩
   refine gi ?_ ?_ <;> intro pL
   ·refine gc (h1 i' rg r X oZ hX) ?_
    rintro _ _ ⟨s1,X1,rfl,hX1,rfl⟩
    refine gc (h2 i' rg r s1 X1 oZ hX1) ?_
    rintro _ _ ⟨s2,X2,rfl,hX2,rfl⟩
    refine gc (h3 i' rg r s1 s2 X2 hX2) ?_
    rintro _ _ ⟨rfl,rfl⟩
    refine gc (h4 i' rg r s1 s2 X2 hX2) ?_
    rintro _ _ ⟨rfl,rfl⟩
    refine gn ?_
    exact ⟨(i'+1,X2),⟨by omega,h5 i' rg r s1 s2 X2 hX2⟩,by simp only;omega,aq,_,aa⟩
   ·obtain ⟨B,rfl⟩:=hK _ _ _ _ hX
    refine gs ?_
    refine gz ?_
    exact fin ⟨rfl,[B],rfl⟩ aa
end Go.Proofs.YteldablklnfblaaGreatDoor
namespace Go.Sl
structure PS where
 R:Rk
 x:Rm
 ks:List Nat
def l8 (pr:Bool)(ls:List (Option Lv))(n gt:Nat)(P:PS)(b:List UInt8)(P':PS)(pt:Pt):Prop :=
 (bp b=true/\P'=P/\pt=ah)\/(bp b=false/\∃k:Nat,k∉P.x.D/\(k+1:Int)*((aN pr ls.length 1024:Nat):Int)<=((bD pr ls.length n:Nat):Int)/\pt=GA (k*aN pr ls.length 1024) gt b 2/\P'=⟨P.R.run (s9 pr ls (k*aN pr ls.length 1024) b),P.x.take k,P.ks++[k]⟩)
inductive jZ (pr:Bool)(ls:List (Option Lv))(n gt:Nat)(P:PS):List (List UInt8)->PS->List Pt->Prop
 | nil:jZ pr ls n gt P [] P []
 | snoc {bs:List (List UInt8)} {P1 P2:PS} {ps:List Pt} {b:List UInt8} {pt:Pt}:jZ pr ls n gt P bs P1 ps->l8 pr ls n gt P1 b P2 pt->jZ pr ls n gt P (bs++[b]) P2 (ps++[pt])
structure jF (qs:List Nat)(pr:Bool)(ls:List (Option Lv))(n:Nat)(P:PS)(c:Nat):Prop where
 on:P.R.on
 lv:dJ qs P.R n ls
 ws:P.R.ws.length+40*(c+3)<=900000000000
 rm:P.x.D.length+c<=bD pr ls.length n / aN pr ls.length 1024
 ks:P.ks.length+c<=100000
theorem rU:∀ {l m:List Nat},l.Nodup->(∀x∈l,x∈m)->l.length<=m.length
 | [],_,_,_=>Nat.zero_le _
 | x :: r,m,hn,h=>by
  rw [List.nodup_cons] at hn
  have hx:=h x (List.mem_cons_self ..)
  have:=rU (l:=r) (m:=m.erase x) hn.2 fun y hy=>(List.mem_erase_of_ne (by rintro rfl;exact hn.1 hy)).2 (h y (List.mem_cons_of_mem _ hy))
  rw [List.length_erase_of_mem hx] at this
  have h2:=List.length_pos_of_mem hx
  simp only [List.length_cons];omega
theorem Hl {D:List Nat}{z m:Nat}(h:D.length<z / m):∃k:Nat,k∉D/\(k+1:Int)*(m:Int)<=(z:Int):=by
 have:∃k,k<z / m/\k∉D:=by
  refine Classical.byContradiction fun hc => ?_
  have:=rU (l:=List.range (z / m)) (m:=D) List.nodup_range fun x hx=>Classical.byContradiction fun yu=>hc ⟨x,List.mem_range.1 hx,yu⟩
  rw [List.length_range] at this;omega
 obtain ⟨k,h1,h2⟩:=this
 refine ⟨k,h2, ?_⟩
 have h3:(k+1)*m<=z:=Nat.le_trans (Nat.mul_le_mul_right m h1) (Nat.div_mul_le_self z m)
 have h4:(((k+1)*m:Nat):Int)<=z:=by omega
 rwa [Int.natCast_mul] at h4
theorem Qv {at_ gt:Nat}{b:List UInt8}(ha:at_<=40959)(hb:1<=b.length/\b.length<=1024)(hg:1<=gt/\gt<=281474976710656):(GA at_ gt b 2).cu/\(GA at_ gt b 2).Ok/\fB (GA at_ gt b 2)=0/\GA at_ gt b 2≠ah:=by
 have hs:(iX 2 b).1=N6 b:=by simp [iX]
 obtain ⟨s1,s2,s3,s4⟩:=Th b
 have hgd:(GA at_ gt b 2).cu:=by
  refine ⟨Int.le_refl _, ?_, ?_, ?_, ?_, ?_,hg.1,hg.2,.inr rfl⟩ <;> simp only [GA] <;> omega
 have eL:GA at_ gt b 2≠ah:=fun h=>by
  have:=congrArg Pt.bytes h
  simp only [GA,ah] at this;omega
 refine ⟨hgd, ?_,by unfold fB;rw [if_neg eL,if_pos hgd],eL⟩
 unfold GA
 rw [hs]
 constructor <;> simp only <;> omega
section
variable {qs:List Nat}{pr:Bool}{ls:List (Option Lv)}{n gt:Nat}{P P':PS}{b:List UInt8}{pt:Pt}{c:Nat}
theorem l8.ok (h:l8 pr ls n gt P b P' pt)(hw:1<=ls.length/\ls.length<=5)(hp:pr=true->3<=ls.length)(hb:b.length<=1024)(hP:jF qs pr ls n P (c+1)):jF qs pr ls n P' c:=by
 obtain ⟨h1,h2,h3,h4,h5⟩:=hP
 rcases h with ⟨-,rfl, -⟩ | ⟨dr,k, -, -, -,rfl⟩
 ·exact ⟨h1,h2,by omega,by omega,by omega⟩
 ·have CV:1<=b.length:=by
   cases b with
   | nil=>cases dr
   | cons _ _=>simp
  have hl:=TT (pr:=pr) (ls:=ls) (at_:=k*aN pr ls.length 1024) (b:=b) ⟨CV,hb⟩ hw.2 hp
  have h6:=Rk.iL P.R (s9 pr ls (k*aN pr ls.length 1024) b)
  refine ⟨h1.run _,h2.run _,by simp only;omega,by simp only [Rm.take,List.length_cons];omega,by simp only [List.length_append,List.length_cons,List.length_nil];omega⟩
end
end Go.Sl
namespace Go.Proofs.YteldablklnfblaaGreatDoor
open Go.Sl
set_option maxRecDepth 10000
set_option maxHeartbeats 4000000
section
variable (T:TypeId)(fr:Nat×Nat)(p:Nat)(qs:List Nat)(t pool:Nat)(tp:Tp)(pr:Bool)(n:Nat)(ls:List (Option Lv))(no:Nat)(V:Chunk)(hV:jb t pool tp pr n ls no V)(ok:dK tp pr n ls.length)(dE:n<=2048)(hall:∀x∈ls,x≠none)
variable (s al:Nat)(ra rd txg note:Nat)(g gt:Nat)(ic:1<=gt/\gt<=281474976710656)
include hV ok dE hall ic
theorem Ji (P:PS)(c:Nat)(hP:jF qs pr ls n P (c+1))(G C Al:Chunk)(hG:rQ g s gt ((aN pr ls.length 1024:Nat):Int) P.ks G)(hC:bq p qs P.R C)(hA:pd al ((bD pr ls.length n:Nat):Int) ((aN pr ls.length 1024:Nat):Int) P.x Al)(b:List UInt8)(L:Nat)(hL:b.length=L)(K9:L<=1024)(O:Chunk)(v:Value)(hO:Rd O 1 v L (ak b)) :
  Ct 217 [ptr g,v] [G,[(s,bR t (ptr al) ra rd txg note)],gK T fr,C,V,Al,O] fun u Bs=>∃P' pt,l8 pr ls n gt P b P' pt/\u = .tuple #[pt.agg,.int .i64 0] /\
   ∃G' C' jN,rQ g s gt ((aN pr ls.length 1024:Nat):Int) P'.ks G'/\bq p qs P'.R C'/\pd al ((bD pr ls.length n:Nat):Int) ((aN pr ls.length 1024:Nat):Int) P'.x jN/\Bs=[G',[(s,bR t (ptr al) ra rd txg note)],gK T fr,C',V,jN,O]:=by
 obtain ⟨h1,h2,h3,h4,h5⟩:=hP
 cases hb:bp b with
 | true =>
  refine (Ux g G [(s,bR t (ptr al) ra rd txg note)] (gK T fr) C V Al b L hL hb O v hO).post fun u Bs => ?_
  rintro ⟨rfl,rfl⟩
  exact ⟨P,ah,.inl ⟨hb,rfl,rfl⟩,rfl,G,C,Al,hG,hC,hA,rfl⟩
 | false =>
  have CV:1<=L:=by
   subst hL
   cases b with
   | nil=>cases hb
   | cons _ _=>simp
  refine (ZA T fr p qs t pool tp pr n ls no V hV ok dE P.R C hC h2 hall h1 s al ra rd txg note g gt ic P.ks oZ G hG P.x Al hA (Hl oZ) b L hL ⟨CV,K9⟩ hb O v hO oZ).post fun u Bs => ?_
  rintro ⟨k,hk,jE,rfl,G',C',jN,xE,bA,dY,rfl⟩
  exact ⟨⟨P.R.run (s9 pr ls (k*aN pr ls.length 1024) b),P.x.take k,P.ks++[k]⟩,_,.inr ⟨hb,k,hk,jE,rfl,rfl⟩,rfl,G',C',jN,xE,bA,dY,rfl⟩
end
end Go.Proofs.YteldablklnfblaaGreatDoor
