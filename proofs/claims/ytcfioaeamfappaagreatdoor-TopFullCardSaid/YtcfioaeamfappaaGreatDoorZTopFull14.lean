/-
  Texts put together (14).
-/
import Derived.Test.YtcfioaeamfappaaGreatDoorZTopFull13
namespace Go.Sl
section
variable {P:Program}{w:World}{a:Act}{o:Oper}{n:Nat}{e:Env}{ds:List Deferred}{w0:World}{As Ls Rs:List Chunk}{K:Act->World->Prop}{Q:Exit->Act->World->Prop}{x y:Operand}{v:Value}
theorem kQ (w:World)(t tx ty T:TypeId)(kk:IntKind)(i:TypeInfo)(zv:Value)(ht:P.underlying t=some (.slice T))(tY:P.underlying tx=some (.int kk))(hi:P.info? T=some i)(hz:i.zero=some zv)(base:Option Addr)(n c m:Nat)(xs:List Value)
  (hold:(Builtin.firstCells i.size n (.slice base n c)).run P w.drew = .ok xs.toArray w.drew) (hm:0<m) (bx:0<i.size) (hc:c<n+m) (yR:((n+m:Nat):Int)<=9223372036854775807) (hb:(n+m)*i.bytes<=140737488355328) :
  (Builtin.append_ #[t,tx] ty #[.slice base n c,.int kk m]).run P w = .ok (.slice (some ⟨w.heap.size,0,none⟩) (n+m) (grownCap w (n+m) c T)) (w.drew.alloc (.cells (xs.toArray++Builtin.zeroCells zv.cells m++Builtin.zeroCells zv.cells (grownCap w (n+m) c T - (n+m))) T)):=by
 have hw:IntKind.i64.wrap (m:Int)=m:=IntWalk.i64_in _ oZ
 have h1:¬(281474976710656<(m:Int)*(i.bytes:Int)):=by
  have h0:m*i.bytes<=(n+m)*i.bytes:=Nat.mul_le_mul_right _ oZ
  have h:((m*i.bytes:Nat):Int)<=140737488355328:=by omega
  rw [Int.natCast_mul] at h;omega
 have h2:¬n+m<=c:=by omega
 have h3:¬i.size=0:=by omega
 have h4:¬(9223372036854775807<((n:Int)+(m:Int))):=by omega
 have h5:¬(281474976710656<Builtin.nextslicecap (n+m) c*i.bytes):=by have:=growslice_fits (need:=n+m) (old:=c) (bytes:=i.bytes) oZ hb;omega
 have h6:¬((m:Int)<0):=by omega
 have h7:¬m*i.size=0:=Nat.ne_of_gt (Nat.mul_pos hm bx)
 simp [Builtin.append_,h6,h7,run_underlying ht,run_underlying tY,sizeOf,typeInfo,zeroValue,hi,hz,hw,h1,h2,h3,h4,h5,Question.forced,newRow,grownCap,asInt,asIntOf,hold]
theorem sT {C:Chunk}{T t tx ty:TypeId}{kk:IntKind}{i:TypeInfo}{zv:Value}{m:Nat}{xs ys:List Value}(hB:az C T i.size v n xs)(hC:∀x∈C,w.heap[x.1]? = some x.2)
  (ht:P.underlying t=some (.slice T)) (tY:P.underlying tx=some (.int kk)) (hi:P.info? T=some i) (hz:i.zero=some zv) (Ru:zv.cells.size=i.size) (hy:(Builtin.zeroCells zv.cells m).toList=ys) (h1:∀u∈ys,u.oneCell'=true) (hm:0<m) (xe:0<i.size)
  (yR:n+m<=maxLen) (xd:(n+m)*i.bytes<=140737488355328) :
  ∃v' w' C',(Builtin.append_ #[t,tx] ty #[v,.int kk m]).run P w = .ok v' w'/\az C' T i.size v' (n+m) (xs++ys)/\l5 w w' [C] [C']:=by
 have VE:ys.length=m*i.size:=by rw [<-hy,Array.length_toList,size_zeroCells,Ru]
 have hya:Builtin.zeroCells zv.cells m=ys.toArray:=by rw [<-hy,Array.toArray_toList]
 have hlen:(xs++ys).length=(n+m)*i.size:=by rw [List.length_append,hB.1,VE,Nat.add_mul]
 have fE:∀z∈xs++ys,z.oneCell'=true:=fun z hz=>(List.mem_append.1 hz).elim (hB.2.1 z) (h1 z)
 have tT:((n+m:Nat):Int)<=9223372036854775807:=by simp only [maxLen] at yR;omega
 have grown:∀(old:Nat) (C:Chunk),old<n+m ->
   az [(w.heap.size,.cells (xs.toArray++Builtin.zeroCells zv.cells m++Builtin.zeroCells zv.cells (grownCap w (n+m) old T - (n+m))) T)] T i.size (.slice (some ⟨w.heap.size,0,none⟩) (n+m) (grownCap w (n+m) old T)) (n+m) (xs++ys) /\
   l5 w (w.drew.alloc (.cells (xs.toArray++Builtin.zeroCells zv.cells m++Builtin.zeroCells zv.cells (grownCap w (n+m) old T - (n+m))) T)) [C] [[(w.heap.size,.cells (xs.toArray++Builtin.zeroCells zv.cells m++Builtin.zeroCells zv.cells (grownCap w (n+m) old T - (n+m))) T)]]:=by
  intro old C ho
  have xN:=grownCap_ge w (n+m) old T
  have lS:grownCap w (n+m) old T<=maxLen:=grownCap_le_maxLen w (n+m) old T yR
  refine ⟨⟨hlen,fE,.inr ⟨w.heap.size,_,(Builtin.zeroCells zv.cells (grownCap w (n+m) old T - (n+m))).toList,rfl, ?_,xN,lS, ?_⟩⟩, ?_⟩
  ·rw [hya];simp [av]
  ·rw [hlen]
   simp only [Array.length_toList,size_zeroCells,Ru,<-Nat.add_mul]
   congr 1
   omega
  ·unfold l5
   simp only [List.flatten_cons,List.flatten_nil,List.append_nil]
   exact Tr.drop (C:=C) (Tr.pre (tI w.drew _ C))
 rcases hB.2.2 with ⟨rfl,rfl,rfl⟩ | ⟨g,c,r,rfl,rfl,hnc,lS,Mt⟩
 ·have hx:xs=[]:=List.eq_nil_of_length_eq_zero (by simpa using hB.1)
  subst hx
  have hr:=kQ (P:=P) w t tx ty T kk i zv ht tY hi hz none 0 0 m [] (run_firstCells_none w.drew i.size 0 0 0) hm xe oZ tT xd
  obtain ⟨h1,h2⟩:=grown 0 [] oZ
  exact ⟨_,_,_,hr,h1,h2⟩
 ·have hg:w.heap[g]? = some (av (xs++r) T):=hC _ (List.mem_singleton.2 rfl)
  by_cases eN:n+m<=c
  ·have bE:n*i.size+ys.length<=(xs++r).length:=by
    rw [VE,<-Nat.add_mul,List.length_append,Mt];exact Nat.mul_le_mul_right _ eN
   have cu:=run_storeCells_at P g (n*i.size) T ys 0 (xs++r).toArray w hg (by simpa using bE) h1
   simp only [Nat.add_zero] at cu
   have e1:(xs++r).take (n*i.size)++ys++(xs++r).drop (n*i.size+ys.length)=xs++ys++r.drop ys.length:=by
    rw [<-hB.1,List.take_left,<-List.drop_drop,List.drop_left]
   rw [e1] at cu
   have hw:IntKind.i64.wrap (m:Int)=m:=IntWalk.i64_in _ oZ
   have q1:¬(281474976710656<(m:Int)*(i.bytes:Int)):=by
    have h0:m*i.bytes<=(n+m)*i.bytes:=Nat.mul_le_mul_right _ oZ
    have h:((m*i.bytes:Nat):Int)<=140737488355328:=by omega
    rw [Int.natCast_mul] at h;omega
   have q6:¬((m:Int)<0):=by omega
   have q7:¬m*i.size=0:=Nat.ne_of_gt (Nat.mul_pos hm xe)
   refine ⟨.slice (some ⟨g,0,none⟩) (n+m) c,w.setRow g (xs++ys++r.drop ys.length).toArray,[(g,av (xs++ys++r.drop ys.length) T)], ?_,⟨hlen,fE,.inr ⟨g,c,r.drop ys.length,rfl,rfl,eN,lS, ?_⟩⟩,l5.row⟩
   ·simp [Builtin.append_,run_underlying ht,run_underlying tY,sizeOf,typeInfo,zeroValue,hi,hz,hw,q1,q6,q7,asInt,asIntOf,eN,Addr.add_lit,hya,cu]
   ·have:=hB.1
    rw [List.length_append] at bE ⊢
    rw [List.length_drop]
    omega
  ·have hold:(Builtin.firstCells i.size n (.slice (some ⟨g,0,none⟩) n c)).run P w.drew = .ok xs.toArray w.drew :=
    run_firstCells_some w.drew i.size n ⟨g,0,none⟩ n c xs hB.1 fun j z hz=>by
     rw [Addr.add_lit,World.cell?_drew,jL hg]
     have hj:j<xs.length:=(List.getElem?_eq_some_iff.1 hz).1
     simp only [Nat.zero_add,List.getElem?_toArray,List.getElem?_append_left hj]
     exact hz
   have hr:=kQ (P:=P) w t tx ty T kk i zv ht tY hi hz (some ⟨g,0,none⟩) n c m xs hold hm xe oZ tT xd
   obtain ⟨h1,h2⟩:=grown c [(g,av (xs++r) T)] oZ
   exact ⟨_,_,_,hr,h1,h2⟩
end
section
variable {X:Cx}{f:Fx}{k:Kt}{e:Env}{Ls Rs Ms:List Chunk}{ops:List Oper}{r':aA}{κ d:Nat}{t:TypeId}{v:Value}
theorem WD.aed {C:Chunk}{el tx:TypeId}{x y:Operand}{iG m s n:Nat}{kk:IntKind}{q:Int}{zv:Value}{xs:List Value}(hκ:dD κ=true)(hx:ev e x=some v)(hy:ev e y=some (.int kk q))(hT:X.T.Ok X.P)(hq:q=(m:Int))(hi:HO X.T t=some (el,s,iG,zv))(tY:X.T.ko tx=some (.int kk))(hB:az C el s v n xs)(hp:Ls.Perm (C :: Rs))(h1:(Builtin.zeroCells zv.cells m).toList.all (·.oneCell')=true)(hb:0<s/\0<m/\n+m<=maxLen/\(n+m)*iG<=140737488355328)
  (hM:cJ κ Ms Rs) (g:∀ad c C',az C' el s (.slice ad (n+m) c) (n+m) (xs++(Builtin.zeroCells zv.cells m).toList)->WO X f ops k Ms r' ((d,.slice ad (n+m) c) :: e) (C' :: Rs)):WD X f ops k Ms κ (some d) (.call ⟨.builtin .append,⟨[x,y]⟩,⟨[t,tx]⟩⟩) r' e Ls:=by
 obtain ⟨i,g1,g2,g3,g4,g5,g6⟩:=iH hT hi
 subst hq g4 g6
 refine .ac hκ fun o a w ho hd hn E S => ?_
 have hC:∀x∈C,w.heap[x.1]? = some x.2:=S.jX.at (hp.mem_iff.2 (List.mem_cons_self ..))
 obtain ⟨v',w',C',hr,AX,hT'⟩:=sT (P:=X.P) (w:=w) (ty:=o.type) hB hC g1 (aU.aR hT tY) g2 g3 g5 rfl (List.all_eq_true.1 h1) hb.2.1 hb.1 hb.2.2.1 hb.2.2.2
 have dC:ab X.P o a w v' w':=by
  simp [ab,execOp,ho,resolve,invoke,builtin,E.eval hx,E.eval hy,hr]
 refine dC.wp ?_
 rw [hd]
 obtain ⟨ad,c,rfl⟩:=AX.slice
 exact KO.mk rfl (fun h C hC=>List.mem_cons_of_mem _ (hM h C hC)) (g ad c C' AX) (E.put (hn d rfl) _) ((S.perm hp).Vz (Bj (kb _ _) (HA _)) hT')
end
end Go.Sl
namespace Go.Proofs.YtcfioaeamfappaaGreatDoor
open Go.Sl
theorem gpn {G H:Prop}(k:H)(h:gE H->G:=by
 intro kk;refine go ?_;refine WO.dec rfl ?_
 apply WD.aed;exact rfl;exact rfl;exact rfl;exact aB;exact mh;exact rfl;exact rfl;assumption;exact pick;decide +kernel;(refine ⟨?_, ?_, ?_, ?_⟩ <;> (try simp only [maxLen]) <;> omega);exact keeps;exact kk.out):G:=h ⟨k⟩
end Go.Proofs.YtcfioaeamfappaaGreatDoor
namespace Go.Sl
def MpN (r:Nat)(k:IntKind)(L:List (Int×Value))(q:Int)(z:Value)(c:Nat)(C:Chunk):Prop:=∃Ms,Ms.map kv=L/\ug Ms c/\(∀m∈Ms,m.key≠q)/\C=[(r,.map (jb k (Ms++[⟨q,z,c⟩])) (c+1))]
theorem Uf (k:IntKind)(A:List Me)(m:Me)(v:Value):(jb k (A++[m])).modify A.length (fun e=>{ e with val:=v })=jb k (A++[{ m with val:=v }]):=by
 apply Array.ext
 ·simp
 ·intro i h1 h2
  rw [Array.getElem_modify]
  simp only [jb,List.map_append,List.map_cons,List.getElem_toArray]
  by_cases c:A.length=i
  ·subst c
   rw [if_pos rfl]
   simp [Me.en]
  ·rw [if_neg c,List.getElem_append,List.getElem_append]
   split
   ·rfl
   ·rename_i hc
    simp only [List.length_map] at hc ⊢
    obtain ⟨j,hj⟩:∃j,i - A.length=j+1:=⟨i - A.length - 1,by omega⟩
    simp only [hj,List.getElem_cons_succ]
theorem PQ {k:IntKind}{A:List Me}{m:Me}{c:Nat}(hA:∀z∈A,z.born<c)(hm:m.born=c):(jb k (A++[m])).findIdx? (fun e=>(e.born:Int)==(c:Int))=some A.length:=by
 rw [jb,List.findIdx?_toArray,List.map_append,List.findIdx?_append]
 have h1:(A.map (Me.en k)).findIdx? (fun e=>(e.born:Int)==(c:Int))=none:=by
  rw [List.findIdx?_eq_none_iff]
  intro e he
  obtain ⟨z,hz,rfl⟩:=List.mem_map.1 he
  have:=hA z hz
  simp only [Me.en,beq_eq_false_iff_ne,ne_eq];omega
 rw [h1]
 simp [hm]
section
variable {X:Cx}{f:Fx}{k:Kt}{e:Env}{Ls Rs:List Chunk}{ops:List Oper}{Ms:List Chunk}{r':aA}{κ d:Nat}{v:Value}{t et:TypeId}{x y z:Operand}{r:Nat}{kk:IntKind}{L:List (Int×Value)}{q:Int}{C:Chunk}
theorem WD.aee (hκ:dD κ=true)(hx:ev e x=some (.map (some r)))(hy:ev e y=some (.int kk q))(hT:X.T.Ok X.P)(ht:Rw X.T t=some (et,kk))(hz:zv X.T et=some v)(hC:Mp r kk L C)(hp:Ls.Perm (C :: Rs))(hl:jP L q=none)
  (hM:cJ κ Ms Rs) (g:∀(c:Nat) C',MpN r kk L q v c C'->WO X f ops k Ms r' ((d,.tuple #[v,.int .i64 c]) :: e) (C' :: Rs)):WD X f ops k Ms κ (some d) (.mapEntry t x y) r' e Ls:=by
 obtain ⟨kt,h1,h2⟩:=n0 hT ht
 obtain ⟨es,clock,rfl,nD,rfl⟩:=hC
 unfold zv at hz
 split at hz
 ·rename_i i hi
  have hi:=hT.ty _ _ hi
  have hn:=uA hl
  refine .ac hκ fun o a w ho hd HH E S => ?_
  have hb:=S.get hp
  have hf:=ph (k:=kk) 0 hn
  have hp':(jb kk es).push { key:=.int kk q,val:=v,born:=clock }=jb kk (es++[⟨q,v,clock⟩]):=Bz kk es ⟨q,v,clock⟩
  have dC:ab X.P o a w (.tuple #[v,.int .i64 clock]) { w with heap:=w.heap.setIfInBounds r (.map (jb kk (es++[⟨q,v,clock⟩])) (clock+1)) }:=by
   rw [<-hp']
   have hf':Instr.findNow (.int kk) (.int kk q) (jb kk es).toList 0=some none:=hf
   generalize jb kk es=L0 at *
   simp [ab,execOp,ho,E.eval hx,E.eval hy,Instr.mapEntry,run_underlying h1,Go.MapKept.run_getObj_map hb,dz h2,Go.MapKept.run_findKey h2 hf',zeroValue,typeInfo,hi,hz,Go.MapKept.run_setObj_map _ hb,goInt]
  refine dC.wp ?_
  rw [hd]
  exact KO.mk rfl (fun h C hC=>List.mem_cons_of_mem _ (hM h C hC)) (g clock _ ⟨es,rfl,nD,hn,rfl⟩) (E.put (HH d rfl) _) (bK S hp)
 ·cases hz
theorem WD.aef {c:Nat}{w:Value}(hκ:dD κ=true)(hx:ev e x=some (.map (some r)))(hy:ev e y=some (.int .i64 c))(hz:ev e z=some v)(hC:MpN r kk L q w c C)(hp:Ls.Perm (C :: Rs))
  (hM:cJ κ Ms Rs) (g:∀C',Mp r kk (L++[(q,v)]) C'->WO X f ops k Ms r' e (C' :: Rs)):WD X f ops k Ms κ none (.entryStore t x y z) r' e Ls:=by
 obtain ⟨es,rfl,nD,hn,rfl⟩:=hC
 refine .ac hκ fun o a w' ho hd _ E S => ?_
 have hb:=S.get hp
 have hf:=PQ (k:=kk) (A:=es) (m:=⟨q,w,c⟩) (c:=c) nD.born rfl
 have hv:=Uf kk es ⟨q,w,c⟩ v
 have S':=bK (ob':=.map (jb kk (es++[⟨q,v,c⟩])) (c+1)) S hp
 refine iN.wp (w':={ w' with heap:=w'.heap.setIfInBounds r (.map (jb kk (es++[⟨q,v,c⟩])) (c+1)) }) ?_ (by
  rw [hd]
  exact KO.mk rfl (fun h C hC=>List.mem_cons_of_mem _ (hM h C hC)) (g _ ⟨es++[⟨q,v,c⟩],c+1,by simp [kv],xS nD rfl hn,rfl⟩) (E.Bl _) S')
 unfold iN
 simp only at hv
 rw [<-hv]
 generalize jb kk (es++[⟨q,w,c⟩])=L0 at *
 simp [execOp,ho,E.eval hx,E.eval hy,E.eval hz,Instr.entryStore,Go.MapKept.run_getObj_map hb,asInt,asIntOf,hf,Go.MapKept.run_setObj_map _ hb]
end
end Go.Sl
namespace Go.Proofs.YtcfioaeamfappaaGreatDoor
open Go.Sl
theorem gme {G H:Prop}(k:H)(h:gE H->G:=by
 intro kk;refine go ?_;refine WO.dec rfl ?_
 apply WD.aee;exact rfl;exact rfl;exact rfl;exact aB;exact rfl;exact rfl;assumption;exact pick;assumption;exact keeps;exact kk.out):G:=h ⟨k⟩
theorem gms {G H:Prop}(k:H)(h:gE H->G:=by
 intro kk;refine go ?_;refine WO.dec rfl ?_
 apply WD.aef;exact rfl;exact rfl;exact rfl;exact rfl;assumption;exact pick;exact keeps;exact kk.out):G:=h ⟨k⟩
end Go.Proofs.YtcfioaeamfappaaGreatDoor
namespace Go.Sl
theorem sU {P:Program}{w:World}{t tx ty T T2:TypeId}{i:TypeInfo}{ad ad2:Option Addr}{n c c2:Nat}(ht:P.underlying t=some (.slice T))(tY:P.underlying tx=some (.slice T2))(hi:P.info? T=some i)(hc:n<=c) :
  (Builtin.append_ #[t,tx] ty #[.slice ad n c,.slice ad2 0 c2]).run P w = .ok (.slice ad n c) w:=by
 have hf:(Builtin.firstCells i.size 0 (.slice ad2 0 c2)).run P w = .ok #[] w:=by
  cases ad2 with
  | none=>exact run_firstCells_none w i.size 0 0 c2
  | some a=>exact run_firstCells_some w i.size 0 a 0 c2 [] (by simp) fun j z hz=>by simp at hz
 cases ad with
 | none=>simp [Builtin.append_,run_underlying ht,run_underlying tY,sizeOf,typeInfo,hi,Builtin.lenOf,hf,hc]
 | some a=>simp [Builtin.append_,run_underlying ht,run_underlying tY,sizeOf,typeInfo,hi,Builtin.lenOf,hf,hc,storeCells]
section
variable {X:Cx}{f:Fx}{k:Kt}{e:Env}{Ls:List Chunk}{ops:List Oper}{Ms:List Chunk}{r':aA}{κ d:Nat}{t tx:TypeId}{x y:Operand}
theorem WD.aeg {C:Chunk}{el:TypeId}{iG m s q b off:Nat}{u zv:Value}{xs ys:List Value}(hκ:dD κ=true)(hx:ev e x=some (.slice (some ⟨b,off,none⟩) q q))(hy:ev e y=some u)(hT:X.T.Ok X.P)(hi:HO X.T t=some (el,s,iG,zv))(hB:Rd C s (.slice (some ⟨b,off,none⟩) q q) q xs)(hm:C∈Ls)(hs:FO X.T Ls s tx u m ys)(hb:q+m<=maxLen/\(q+m)*iG<=140737488355328)(h0:0<m)
  (hM:cJ κ Ms Ls) (g:∀ad c C',az C' el s (.slice ad (q+m) c) (q+m) (xs++ys)->WO X f ops k Ms r' ((d,.slice ad (q+m) c) :: e) (C' :: Ls)):WD X f ops k Ms κ (some d) (.call ⟨.builtin .append,⟨[x,y]⟩,⟨[t,tx]⟩⟩) r' e Ls:=by
 obtain ⟨i,g1,g2,g3,g4,g5,g6⟩:=iH hT hi
 exact .ac hκ fun _ _ w ho hd hn E S=>FB E S ho hd (hn d rfl) hx hy hB hm (hs X.P w hT S.jX) g1 g2 g3 g4 g5 g6 hb.1 hb.2 h0 fun _ _ v' C' E' S' AX=>by obtain ⟨ad,c,rfl⟩:=AX.slice;exact KO.mk rfl (fun h C hC=>List.mem_cons_of_mem _ (hM h C hC)) (g ad c C' AX) E' S'
theorem WD.aeh {el:TypeId}{iG s q c c2:Nat}{ad ad2:Option Addr}{zv:Value}(hκ:dD κ=true)(hx:ev e x=some (.slice ad q c))(hy:ev e y=some (.slice ad2 0 c2))(hT:X.T.Ok X.P)(hi:HO X.T t=some (el,s,iG,zv))(tY:FN X.T tx=true)(hc:q<=c)
  (hM:cJ κ Ms Ls) (g:WO X f ops k Ms r' ((d,.slice ad q c) :: e) Ls):WD X f ops k Ms κ (some d) (.call ⟨.builtin .append,⟨[x,y]⟩,⟨[t,tx]⟩⟩) r' e Ls:=by
 obtain ⟨i,g1,g2,g3,g4,g5,g6⟩:=iH hT hi
 obtain ⟨el2,h2⟩:=zi hT tY
 refine .ac hκ fun o a w ho hd hn E S => ?_
 have hr:=sU (P:=X.P) (w:=w) (ty:=o.type) (ad:=ad) (ad2:=ad2) (n:=q) (c:=c) (c2:=c2) g1 h2 g2 hc
 have dC:ab X.P o a w (.slice ad q c) w:=by
  simp [ab,execOp,ho,resolve,invoke,builtin,E.eval hx,E.eval hy,hr]
 refine dC.wp ?_
 rw [hd]
 exact KO.mk rfl hM g (E.put (hn d rfl) _) S
end
end Go.Sl
namespace Go.Proofs.YtcfioaeamfappaaGreatDoor
open Go.Sl
theorem gpf {G H:Prop}(k:H)(h:gE H->G:=by
 intro kk;refine go ?_;refine WO.dec rfl ?_
 apply WD.aeg;exact rfl;exact rfl;exact rfl;exact aB;exact rfl;assumption;exact mem;exact Ss;exact szs;exact om;exact keeps;exact kk.out):G:=h ⟨k⟩
theorem gpe {G H:Prop}(k:H)(h:gE H->G:=by
 intro kk;refine go ?_;refine WO.dec rfl ?_
 apply WD.aeh;exact rfl;exact rfl;exact rfl;exact aB;exact rfl;exact rfl;exact om;exact keeps;exact kk.out):G:=h ⟨k⟩
set_option maxRecDepth 10000
set_option maxHeartbeats 4000000
section
variable (a:Nat)(l:List au)(aQ:mJ l)(txg note room:Nat)(eN:room<=100000)(vG vS:Value)(ad:Option Addr)(c:Nat)(D O:Chunk)(hD:Rd D 130 (.slice ad l.length c) l.length (l.flatMap au.lay))(hO:DE O l)
theorem G1 (k z:Int)(h:¬(1<=k/\k<=112)\/¬(1<=z/\z<=112)):Ct 51 [ptr a,.int .i64 k,.int .i64 z] [] fun u Bs=>u = .int .i64 1/\Bs=[]:=by
 refine st Tryz.func51 fun w0 => ?_
 refine gc (cA k) ?_
 rintro _ _ ⟨rfl,rfl⟩
 refine gc (cA z) ?_
 rintro _ _ ⟨rfl,rfl⟩
 by_cases hk:1<=k/\k<=112
 ·rw [decide_eq_true hk,decide_eq_false (h.resolve_left (fun c=>c hk))]
  refine gz ?_
  exact fin ⟨rfl,rfl⟩ aa
 ·rw [decide_eq_false hk]
  refine gz ?_
  exact fin ⟨rfl,rfl⟩ aa
theorem G3 (k:Int)(h:¬(1<=k/\k<=112)):Ct 53 [ptr a,.int .i64 k] [] fun u Bs=>u = .int .i64 1/\Bs=[]:=by
 have hn:=cA k
 rw [decide_eq_false h] at hn
 refine st Tryz.func53 fun w0 => ?_
 refine gc hn ?_
 rintro _ _ ⟨rfl,rfl⟩
 refine gz ?_
 exact fin ⟨rfl,rfl⟩ aa
include aQ
theorem PR (k:Int)(hk:1<=k/\k<=112)(hH:IV D (.slice ad l.length c) l.length (l.flatMap au.lay))(hc:l.length<=c) :
  Ct 53 [ptr a,.int .i64 k] [[(a,eK (.slice ad l.length c) txg note room vG vS)],D] fun u Bs=>(ey l k=none/\u = .int .i64 130/\Bs=[[(a,eK (.slice ad l.length c) txg note room vG vS)],D])\/∃i o l' ba c' D',l[i]? = some o/\ey l k=some o/\l'=l.take i++l.drop (i+1)/\u = .int .i64 0/\IV D' (.slice ba l'.length c') l'.length (l'.flatMap au.lay)/\l'.length<=c'/\Bs=[[(a,eK (.slice ba l'.length c') txg note room vG vS)],D']:=by
 have hn:=cA k
 rw [decide_eq_true hk] at hn
 have hD:=hH.1
 have gh:=nW a l aQ txg note room vG vS ad c D hD k
 have nJ:=aQ.jE
 refine st Tryz.func53 fun w0 => ?_
 refine gc hn ?_
 rintro _ _ ⟨rfl,rfl⟩
 refine gc gh ?_
 rintro _ _ ⟨⟨rfl,hn⟩ | ⟨i,o,rfl,hi,hn⟩,rfl⟩
 ·refine gz ?_
  exact fin (.inl ⟨hn,rfl,rfl⟩) aa
 ·have bo:=(List.getElem?_eq_some_iff.1 hi).1
  rcases hH.2 with h0 | ⟨g,c',r,hv,rfl⟩
  ·omega
  cases hv
  have sQ:(l.drop (i+1)).length=l.length - (i+1):=List.length_drop ..
  have nZ:((l.flatMap au.lay).drop ((i+1)*130)).take ((l.length - (i+1))*130)=(l.drop (i+1)).flatMap au.lay:=by
   rw [ri au.aj,List.take_of_length_le (by rw [fL au.aj,sQ];exact Nat.le_refl _)]
  have hRi:Rd [(g,av (l.flatMap au.lay++r) 65)] 130 (.slice (some ⟨g,0,none⟩) i i) i ((l.take i).flatMap au.lay):=by
   have h1:=kB au.aj i l
   refine ⟨by rw [fL au.aj,List.length_take,Nat.min_eq_left oZ],fun u hu=>hD.2.1 u ?_,by simp only [maxLen];omega,.inr ⟨g,0,i,_,_,_,rfl,List.mem_singleton.2 rfl,fun j u hu => ?_⟩⟩
   ·rw [<-h1] at hu;exact List.mem_of_mem_take hu
   ·rw [<-h1] at hu
    rw [Nat.zero_add,List.getElem?_toArray,List.getElem?_append_left (by have:=(List.getElem?_eq_some_iff.1 hu).1;rw [List.length_take] at this;omega)]
    rw [List.getElem?_take] at hu
    split at hu
    ·exact hu
    ·cases hu
  by_cases Wv:l.length=i+1
  ·have LV:l.length - (i+1)=0:=by omega
   have hn0:i - 0=i:=rfl
   have lT:l.take i++l.drop (i+1)=l.take i:=by rw [List.drop_of_length_le oZ,List.append_nil]
   have hti:(l.take i).length=i:=by rw [List.length_take];omega
   refine gw ?_;intro sN hR7
   refine gp ?_;intro yd c8 E8 hE8
   refine gv ?_
   refine gpe ?_
   refine gz ?_
   refine fin (.inr ⟨i,o,l.take i,some ⟨g,0,none⟩,i,_,hi,hn,lT.symm,rfl,⟨by rw [hti];exact hRi,.inr ⟨g,i,(l.drop i).flatMap au.lay++r,by rw [hti], ?_⟩⟩,by omega,by rw [hti]⟩) aa
   rw [<-List.append_assoc,<-List.flatMap_append,List.take_append_drop]
  ·obtain ⟨q,hq⟩:∃q,l.length - (i+1)=q:=⟨_,rfl⟩
   have hn0:i - 0=i:=rfl
   have lT:(l.take i++l.drop (i+1)).length=i+q:=by rw [List.length_append,List.length_take,sQ];omega
   refine gw ?_;intro sN hR7
   refine gp ?_;intro yd c8 E8 hE8
   refine gv ?_
   refine gpf ?_;intro Md c9 E9 Zi
   rw [<-List.flatMap_append] at Zi
   refine gz ?_
   refine fin (.inr ⟨i,o,l.take i++l.drop (i+1),Md,c9,E9,hi,hn,rfl,rfl,by rw [lT];exact IV.of Zi,by rw [lT];exact Zi.dL,by rw [lT]⟩) aa
include hD hO eN
theorem p9 (k:Int)(hk:1<=k/\k<=112)(z:Nat)(hz:1<=z/\z<=112) :
  Ct 51 [ptr a,.int .i64 k,.int .i64 z] [[(a,eK (.slice ad l.length c) txg note room vG vS)],D,O] fun u Bs=>(ey l k=none/\u = .int .i64 130/\Bs=[[(a,eK (.slice ad l.length c) txg note room vG vS)],D,O])\/∃o,ey l k=some o/\((k=z/\u = .int .i64 0/\Bs=[[(a,eK (.slice ad l.length c) txg note room vG vS)],D,O])\/(k≠z/\cy l z o.b.length room=false/\u = .int .i64 3/\Bs=[[(a,eK (.slice ad l.length c) txg note room vG vS)],D,O])\/(k≠z/\cy l z o.b.length room=true/\u = .int .i64 0/\∃v l' ba c' D' E,l'=dF { o with no:=z,v:=v } false l/\DE (O++E) l' /\
   az D' 65 130 (.slice ba l'.length c') l'.length (l'.flatMap au.lay)/\Bs=[[(a,eK (.slice ba l'.length c') txg note room vG vS)],D',O,E])):=by
 have LV:=cA k
 rw [decide_eq_true hk] at LV
 have dx:=cA z
 rw [decide_eq_true oZ] at dx
 have gh:=nW a l aQ txg note room vG vS ad c D hD k
 have bE:=fun size hs=>Ai a l aQ txg note room vG vS ad c D O hD hO z size hs eN
 have bL:=fun o hv=>GY a l aQ txg note room vG vS ad c D hD o hv (fun x hx=>by obtain ⟨⟨ad,c,hv, -⟩, -⟩:=hO x hx;rw [hv];rfl)
 have nJ:=aQ.jE
 refine st Tryz.func51 fun w0 => ?_
 refine gc LV ?_
 rintro _ _ ⟨rfl,rfl⟩
 refine gc dx ?_
 rintro _ _ ⟨rfl,rfl⟩
 refine gc gh ?_
 rintro _ _ ⟨⟨rfl,hn⟩ | ⟨i,o,rfl,hi,hn⟩,rfl⟩
 ·refine gz ?_
  exact fin (.inl ⟨hn,rfl,rfl⟩) aa
 ·have bo:=(List.getElem?_eq_some_iff.1 hi).1
  have qG:=List.mem_of_getElem? hi
  have AY:=aQ.sm o qG
  obtain ⟨⟨j2,cv,hv,RA⟩,Mf⟩:=hO o qG
  rw [hv] at Mf
  obtain ⟨gD,off,rfl⟩:=hD.addr oZ
  have hs:=ar au.aj l i o hi
  have Gy:=o.aj
  have fE:=o.bC (by rw [hv];rfl)
  have Xn:o.lay[1]? = some (.slice j2 o.b.length cv):=by rw [<-hv];exact au.rD _
  refine gi ?_ ?_ <;> intro jz
  ·refine gz ?_
   exact fin (.inr ⟨o,hn,.inl ⟨by simpa using jz,rfl,rfl⟩⟩) aa
  ·have jz:k≠z:=by simpa using jz
   have Zg:=bE o.b.length AY
   refine ga ?_;intro wV
   refine gc Zg ?_
   rintro _ _ ⟨rfl,rfl⟩
   cases IU:cy l z o.b.length room with
   | false =>
    refine gz ?_
    exact fin (.inr ⟨o,hn,.inr (.inl ⟨jz,IU,rfl,rfl⟩)⟩) aa
   | true =>
    have e0:o.lay.set 0 (.int .i64 z)=({ o with no:=z }:au).lay:=au.adM o z
    have RD:(o.lay.set 0 (.int .i64 z)).length=130:=by rw [List.length_set];exact Gy
    have hv2:(o.lay.set 0 (.int .i64 z))[1]? = some (.slice j2 o.b.length cv):=by rw [e0,<-hv];exact au.rD _
    refine gp ?_;intro Aq cE E hE
    have rF:({ o with no:=z,v:=.slice Aq o.b.length cE }:au).aj=({ o with no:=z,v:=.slice Aq o.b.length cE }:au).aj:=rfl
    have aec:=({ o with no:=z,v:=.slice Aq o.b.length cE }:au).aj
    have e1:(o.lay.set 0 (.int .i64 z)).set 1 (.slice Aq o.b.length cE)=({ o with no:=z,v:=.slice Aq o.b.length cE }:au).lay:=by rw [e0];exact au.TW _ _
    have hpj:=bL { o with no:=z,v:=.slice Aq o.b.length cE } rfl
    refine go ?_
    rw [e1]
    refine gc hpj ?_
    rintro _ _ ⟨ba,c',D',eo,rfl⟩
    refine gz ?_
    refine fin (.inr ⟨_,hn,.inr (.inr ⟨jz,IU,rfl,.slice Aq o.b.length cE,_,ba,c',D',E,rfl,fun q hq => ?_,eo,rfl⟩)⟩) aa
    rcases kO hq with rfl | hq
    ·exact ⟨⟨Aq,cE,rfl,hE.dL⟩,hE.rd.sub fun y hy=>List.mem_append_right _ hy⟩
    ·exact ⟨(hO q hq).1,(hO q hq).2.sub fun y hy=>List.mem_append_left _ hy⟩
end
end Go.Proofs.YtcfioaeamfappaaGreatDoor
namespace Go.Sl
section
variable {R:Rk}{l:List Ev}{i a:Nat}{b:eF}
theorem wk (R:Rk)(d i a:Nat)(g:Dk->Dk)(h:∀x:Dk,d=i->(g x).now[a]? = x.now[a]?):(((R.ds.modify d g)[i]?).bind fun (x:Dk)=>x.now[a]?)=(R.ds[i]?).bind fun (x:Dk)=>x.now[a]?:=by
 rw [List.getElem?_modify]
 cases hx:R.ds[i]? with
 | none=>simp
 | some x =>
  by_cases c:d=i
  ·simp [c,h x c]
  ·simp [c]
theorem K5 (R:Rk)(d i a:Nat)(g:Dk->Dk)(h:∀x:Dk,d=i->(g x).fj[a]? = x.fj[a]?):(((R.ds.modify d g)[i]?).bind fun (x:Dk)=>x.fj[a]?)=(R.ds[i]?).bind fun (x:Dk)=>x.fj[a]?:=by
 rw [List.getElem?_modify]
 cases hx:R.ds[i]? with
 | none=>simp
 | some x =>
  by_cases c:d=i
  ·simp [c,h x c]
  ·simp [c]
theorem xz {d a':Nat}(h:¬(d=i/\a'=a)):(R.put d a' b).now i a=R.now i a:=by
 unfold Rk.now Rk.put
 exact congrArg (fun o:Option eF=>o.getD []) (wk R d i a _ fun x hd=>by
  simp only [List.getElem?_set]
  rw [if_neg (fun e=>h ⟨hd,e⟩)])
theorem PT {d a':Nat}:(R.put d a' b).pl i a=R.pl i a:=by
 unfold Rk.pl Rk.put
 exact congrArg (fun o:Option eF=>o.getD []) (K5 R d i a _ fun x _=>rfl)
theorem qc {e:Ev}(h:∀b,e ≠ .w i a b):(R.ev e).now i a=R.now i a:=by
 cases e with
 | w d a' b =>
  have hp:(R.put d a' b).now i a=R.now i a:=xz fun ⟨h1,h2⟩=>h b (by rw [h1,h2])
  simp only [Rk.ev]
  split
  ·rfl
  ·split
   ·exact hp
   ·rfl
   ·exact hp
 | f d =>
  simp only [Rk.ev]
  split
  ·rfl
  ·exact congrArg (fun o:Option eF=>o.getD []) (wk R d i a _ fun x _=>rfl)
theorem bJ (h:∀b,Ev.w i a b∉l):(R.run l).now i a=R.now i a:=by
 induction l generalizing R with
 | nil=>rfl
 | cons e l ih =>
  rw [Rk.eY,ih fun b hb=>h b (List.mem_cons_of_mem _ hb)]
  exact qc fun b he=>h b (by rw [he];exact List.mem_cons_self ..)
theorem Ef (bW:R.on)(ha:a<R.size i):(R.ev (.w i a b)).now i a=b:=by
 obtain ⟨h1,h2⟩:=bW
 simp only [Rk.ev,h1,h2,Bool.false_eq_true,if_false]
 unfold Rk.now Rk.put
 unfold Rk.size at ha
 simp only [List.getElem?_modify_eq]
 cases hx:R.ds[i]? with
 | none=>rw [hx] at ha;simp at ha
 | some x =>
  rw [hx] at ha
  simp only [Option.map_some,Option.getD_some] at ha
  simp [ha]
theorem gZ (bW:R.on)(ha:a<R.size i)(h:∀b',Ev.w i a b'∈l->b'=b)(hm:Ev.w i a b∈l):(R.run l).now i a=b:=by
 induction l generalizing R with
 | nil=>cases hm
 | cons e l ih =>
  rw [Rk.eY]
  by_cases c:Ev.w i a b∈l
  ·exact ih (bW.ev e) (by rw [Rk.tg];exact ha) (fun b' hb=>h b' (List.mem_cons_of_mem _ hb)) c
  ·rcases List.mem_cons.1 hm with rfl | hm
   ·rw [bJ fun b' hb=>c (by rw [<-h b' (List.mem_cons_of_mem _ hb)];exact hb)]
    exact Ef bW ha
   ·exact absurd hm c
theorem Ug {e:Ev}(h:∀d,e ≠ .f d):(R.ev e).pl i a=R.pl i a:=by
 cases e with
 | w d a' b =>
  simp only [Rk.ev]
  split
  ·rfl
  ·split
   ·exact PT
   ·rfl
   ·exact PT
 | f d=>exact absurd rfl (h d)
theorem G4 (h:∀d,Ev.f d∉l):(R.run l).pl i a=R.pl i a:=by
 induction l generalizing R with
 | nil=>rfl
 | cons e l ih =>
  rw [Rk.eY,ih fun b hb=>h b (List.mem_cons_of_mem _ hb)]
  exact Ug fun b he=>h b (by rw [he];exact List.mem_cons_self ..)
theorem kR (d:Nat):(R.ev (.f d)).now i a=R.now i a:=qc fun b h=>by cases h
theorem IW (bW:R.on):(R.ev (.f i)).pl i a=R.now i a:=by
 obtain ⟨h1,h2⟩:=bW
 simp only [Rk.ev,h2,Bool.false_eq_true,if_false]
 unfold Rk.pl Rk.now
 simp only [List.getElem?_modify_eq]
 cases hx:R.ds[i]? <;> simp
theorem Eg {d:Nat}(h:R.pl i a=R.now i a):(R.ev (.f d)).pl i a=R.now i a:=by
 simp only [Rk.ev]
 split
 ·exact h
 ·unfold Rk.pl Rk.now at *
  simp only [List.getElem?_modify]
  by_cases c:d=i
  ·subst c
   cases hx:R.ds[d]? <;> simp
  ·cases hx:R.ds[i]? with
   | none=>simp
   | some x=>rw [hx] at h;simpa [c] using h
theorem PU (bW:R.on):∀ {l:List Nat},i∈l->(R.run (l.map .f)).pl i a=R.now i a:=by
 intro l
 have cZ:∀(l:List Nat) (R:Rk),R.pl i a=R.now i a->(R.run (l.map .f)).pl i a=R.now i a:=by
  intro l
  induction l with
  | nil=>exact fun R h=>h
  | cons d l ih =>
   intro R h
   rw [List.map_cons,Rk.eY,ih _ (by rw [Eg h,kR]),kR]
 induction l generalizing R with
 | nil=>intro h;cases h
 | cons d l ih =>
  intro h
  rw [List.map_cons,Rk.eY]
  by_cases c:d=i
  ·subst c
   rw [cZ l _ (by rw [IW bW,kR]),kR]
  ·rcases List.mem_cons.1 h with e | h
   ·exact absurd e.symm c
   ·rw [ih (bW.ev _) h,kR]
theorem ig:R.w6.now i a=R.pl i a:=by
 unfold Rk.now Rk.pl Rk.w6
 rw [List.getElem?_map]
 cases R.ds[i]? <;> rfl
theorem Zj:R.w6.pl i a=R.pl i a:=by
 unfold Rk.pl Rk.w6
 rw [List.getElem?_map]
 cases R.ds[i]? <;> rfl
theorem Zk:R.w6.on:=⟨rfl,rfl⟩
theorem PV:R.w6.live i↔R.live i:=by
 unfold Rk.live Rk.w6
 rw [List.getElem?_map]
 cases R.ds[i]? <;> rfl
theorem PW (h:R.Ok):R.w6.size i=R.size i:=by
 unfold Rk.size Rk.w6
 rw [List.getElem?_map]
 cases hx:R.ds[i]? with
 | none=>rfl
 | some x=>simp [Dk.back,(h.len x (List.mem_of_getElem? hx)).1]
end
theorem eM {d i a:Nat}{b:eF}:∀ {l:List eF} {at_:Nat},Ev.w i a b∈fS d at_ l↔i=d/\∃j:Nat,l[j]? = some b/\a=at_+j
 | [],at_=>by simp [fS]
 | s :: l,at_=>by
  rw [fS,List.mem_cons,eM (l:=l) (at_:=at_+1)]
  constructor
  ·rintro (h | ⟨rfl,j,h1,rfl⟩)
   ·cases h;exact ⟨rfl,0,rfl,rfl⟩
   ·exact ⟨rfl,j+1,h1,by omega⟩
  ·rintro ⟨rfl,j,h1,rfl⟩
   cases j with
   | zero=>left;simp at h1;rw [h1];rfl
   | succ j=>right;exact ⟨rfl,j,h1,by omega⟩
theorem mM {d a e:Nat}:∀ {l:List eF},Ev.f e∉fS d a l
 | []=>by simp [fS]
 | s :: l=>by rw [fS,List.mem_cons];exact fun h=>h.elim (fun h=>by cases h) mM
theorem ei {f:Nat->List Ev}{e:Ev}:∀ {m:Nat},e∈upto f m↔∃k,k<m/\e∈f k
 | 0=>by simp [upto]
 | m+1=>by
  rw [upto,List.mem_append,ei (m:=m)]
  constructor
  ·rintro (⟨k,h1,h2⟩ | h)
   ·exact ⟨k,by omega,h2⟩
   ·exact ⟨m,by omega,h⟩
  ·rintro ⟨k,h1,h2⟩
   rcases (show k<m\/k=m by omega) with c | rfl
   ·exact .inl ⟨k,c,h2⟩
   ·exact .inr h2
def wm (ls:List (Option Lv)):Prop:=∀k,k<ls.length->∃x,ls[k]? = some (some x)/\x.i=k
theorem j7.i {qs:List Nat}{ls:List (Option Lv)}(h:j7 qs ls):wm ls:=fun k hk=>by
 obtain ⟨a,q, -,h2⟩:=h k hk
 exact ⟨_,h2,rfl⟩
section
variable {ls:List (Option Lv)}(hI:wm ls)
include hI
theorem wm.at {k:Nat}{x:Lv}(h:ls[k]? = some (some x)):x.i=k/\k<ls.length:=by
 have hk:=(List.getElem?_eq_some_iff.1 h).1
 obtain ⟨y,h1,h2⟩:=hI k hk
 rw [h] at h1;cases h1
 exact ⟨h2,hk⟩
theorem G5:iF ls=(List.range ls.length).map .f:=by
 have:∀m,m<=ls.length->upto (ni ls) m=(List.range m).map .f:=by
  intro m
  induction m with
  | zero=>intro _;rfl
  | succ m ih =>
   intro h
   obtain ⟨x,h1,h2⟩:=hI m oZ
   rw [upto,ih oZ,List.range_succ,List.map_append]
   congr 1
   unfold ni;rw [h1];simp [h2]
 exact this _ (Nat.le_refl _)
theorem Ar {n:Nat}{u:Ub}{i a:Nat}{b:eF}:Ev.w i a b∈oA n ls u↔i<ls.length/\b=whole (kx u)/\∃k,k<4/\a=fA n k+1+u.txg % 8:=by
 unfold oA
 rw [ei]
 constructor
 ·rintro ⟨k,hk,h⟩
  obtain ⟨x,h1,h2⟩:=hI k hk
  unfold GG at h
  rw [h1] at h
  obtain ⟨q,hq,h⟩:=ei.1 h
  obtain ⟨rfl,j,hj,rfl⟩:=eM.1 h
  obtain rfl:j=0:=by
   have:=(List.getElem?_eq_some_iff.1 hj).1
   simpa using this
  simp at hj
  exact ⟨by omega,hj.symm,q,hq,rfl⟩
 ·rintro ⟨hi,rfl,q,hq,rfl⟩
  obtain ⟨x,h1,h2⟩:=hI i hi
  refine ⟨i,hi, ?_⟩
  unfold GG
  rw [h1]
  refine ei.2 ⟨q,hq,eM.2 ⟨h2.symm,0,rfl,rfl⟩⟩
theorem tE {k no:Nat}{s:List UInt8}{i a:Nat}{b:eF}:Ev.w i a b∈upto (jH ls k no s) ls.length↔i<ls.length/\b=iV no s/\a=18+k:=by
 rw [ei]
 constructor
 ·rintro ⟨q,hq,h⟩
  obtain ⟨x,h1,h2⟩:=hI q hq
  unfold jH at h
  rw [h1] at h
  obtain ⟨rfl,j,hj,rfl⟩:=eM.1 h
  obtain rfl:j=0:=by
   have:=(List.getElem?_eq_some_iff.1 hj).1
   simpa using this
  simp at hj
  exact ⟨by omega,hj.symm,rfl⟩
 ·rintro ⟨hi,rfl,rfl⟩
  obtain ⟨x,h1,h2⟩:=hI i hi
  refine ⟨i,hi, ?_⟩
  unfold jH
  rw [h1]
  exact eM.2 ⟨h2.symm,0,rfl,rfl⟩
omit hI in
theorem PX {k no e m:Nat}{s:List UInt8}:Ev.f e∉upto (jH ls k no s) m:=by
 rw [ei]
 rintro ⟨q,hq,h⟩
 unfold jH at h
 split at h
 ·exact mM h
 ·cases h
theorem Au {pr:Bool}{at_:Nat}{bs:List UInt8}(hw:pr=true->2<=ls.length){i a:Nat}{b:eF}:Ev.w i a b∈sS pr ls at_ bs ↔
  if pr then ∃j:Nat,(iW ls.length bs)[j]? = some b/\i=(at_+j) % ls.length/\a=274+(at_+j) / ls.length
  else i<ls.length/\∃j:Nat,(kG bs)[j]? = some b/\a=274+at_+j:=by
 cases pr with
 | false =>
  rw [sS,if_neg (by simp),if_neg (by simp),ei]
  constructor
  ·rintro ⟨k,hk,h⟩
   obtain ⟨x,h1,h2⟩:=hI k hk
   unfold nG at h
   rw [h1] at h
   obtain ⟨rfl,j,hj,rfl⟩:=eM.1 h
   exact ⟨by omega,j,hj,rfl⟩
  ·rintro ⟨hi,j,hj,rfl⟩
   obtain ⟨x,h1,h2⟩:=hI i hi
   refine ⟨i,hi, ?_⟩
   unfold nG
   rw [h1]
   exact eM.2 ⟨h2.symm,j,hj,rfl⟩
 | true =>
  have hw:=hw rfl
  rw [sS,if_pos rfl,if_pos rfl,ei]
  constructor
  ·rintro ⟨k,hk,h⟩
   obtain ⟨x,h1,h2⟩:=hI ((at_+k) % ls.length) (Nat.mod_lt _ oZ)
   unfold nH at h
   rw [h1] at h
   cases hs:(iW ls.length bs)[k]? with
   | none=>rw [hs] at h;cases h
   | some s =>
    rw [hs] at h
    obtain ⟨rfl,j,hj,rfl⟩:=eM.1 h
    obtain rfl:j=0:=by
     have:=(List.getElem?_eq_some_iff.1 hj).1
     simpa using this
    simp at hj
    exact ⟨k,by rw [hs,hj],h2,rfl⟩
  ·rintro ⟨j,hj,rfl,rfl⟩
   obtain ⟨x,h1,h2⟩:=hI ((at_+j) % ls.length) (Nat.mod_lt _ oZ)
   refine ⟨j, ?_, ?_⟩
   ·have:=(List.getElem?_eq_some_iff.1 hj).1
    rwa [pO hw] at this
   ·unfold nH
    rw [h1,hj]
    exact eM.2 ⟨h2.symm,0,rfl,rfl⟩
omit hI in
theorem PY {pr:Bool}{at_ e:Nat}{bs:List UInt8}:Ev.f e∉sS pr ls at_ bs:=by
 unfold sS
 split
 ·rw [ei]
  rintro ⟨k, -,h⟩
  unfold nH at h
  split at h
  ·exact mM h
  ·cases h
 ·rw [ei]
  rintro ⟨k, -,h⟩
  unfold nG at h
  split at h
  ·exact mM h
  ·cases h
end
def sA {α:Type}(G:List α)(a:Nat)(b:List α):List α:=G.take a++b++G.drop (a+b.length)
theorem Av {α:Type}{G b:List α}{a:Nat}(h:a+b.length<=G.length):(sA G a b).length=G.length:=by simp [sA];omega
theorem nA {α:Type}{G b:List α}{a:Nat}(h:a+b.length<=G.length)(x:Nat):(sA G a b)[x]? = if a<=x/\x<a+b.length then b[x - a]? else G[x]?:=by
 unfold sA
 have ht:(G.take a).length=a:=by rw [List.length_take];omega
 by_cases c1:x<a
 ·rw [if_neg oZ,List.append_assoc,List.getElem?_append_left oZ,List.getElem?_take,if_pos c1]
 ·by_cases c2:x<a+b.length
  ·rw [if_pos oZ,List.getElem?_append_left (by rw [List.length_append];omega),List.getElem?_append_right oZ,ht]
  ·rw [if_neg oZ,List.getElem?_append_right (by rw [List.length_append];omega),List.getElem?_drop]
   congr 1
   rw [List.length_append];omega
theorem Uh {α:Type}{G b:List α}{a c:Nat}(h:a+b.length<=G.length)(hc:c<=b.length):sA (sA G a (b.take c)) (a+c) (b.drop c)=sA G a b:=by
 have hl:(b.take c).length=c:=by rw [List.length_take];omega
 have h1:a+(b.take c).length<=G.length:=by omega
 apply List.ext_getElem?
 intro x
 rw [nA (by rw [Av h1,List.length_drop];omega),nA h1,nA h,List.length_drop,hl]
 by_cases c1:a+c<=x/\x<a+c+(b.length - c)
 ·rw [if_pos c1,if_pos oZ,List.getElem?_drop]
  congr 1;omega
 ·rw [if_neg c1]
  by_cases c2:a<=x/\x<a+c
  ·rw [if_pos c2,if_pos oZ,List.getElem?_take,if_pos oZ]
  ·rw [if_neg c2,if_neg oZ]
def gS (G:List UInt8)(k:Nat):List UInt8:=(G.drop (k*88)).take 88
theorem PZ {G:List UInt8}(h:G.length=22528){k:Nat}(hk:k<256):(gS G k).length=88:=by simp [gS,h];omega
theorem Aw (G:List UInt8)(k y:Nat):(gS G k)[y]? = if y<88 then G[k*88+y]? else none:=by
 unfold gS
 rw [List.getElem?_take,List.getElem?_drop]
theorem K6 (s:List UInt8)(o:Nat)(b:List UInt8):nY s o b=sA s o (b.take (min b.length (88 - o))):=by
 unfold nY sA
 rw [List.length_take,Nat.min_eq_left (Nat.min_le_left _ _)]
theorem Zl {G b:List UInt8}{a k c:Nat}(hG:G.length=22528)(ha:a+b.length<=22528)(hc:c=min b.length (88 - a % 88))(hk:k<256):gS (sA G a (b.take c)) k=if k=a / 88 then nY (gS G k) (a % 88) b else gS G k:=by
 have hl:(b.take c).length=c:=by rw [List.length_take];omega
 have hm:=Nat.div_add_mod a 88
 have Wc:=Nat.mod_lt a (show 0<88 by omega)
 have h1:a+(b.take c).length<=G.length:=by omega
 by_cases ck:k=a / 88
 ·rw [if_pos ck]
  apply List.ext_getElem?
  intro y
  rw [Aw,nA h1,hl,K6,<-hc,nA (by rw [PZ hG hk,hl];omega),hl,Aw]
  by_cases c1:y<88
  ·rw [if_pos c1,if_pos c1]
   by_cases c2:a % 88<=y/\y<a % 88+c
   ·rw [if_pos c2,if_pos oZ];congr 1;omega
   ·rw [if_neg c2,if_neg oZ]
  ·rw [if_neg c1,if_neg c1,if_neg oZ]
 ·rw [if_neg ck]
  apply List.ext_getElem?
  intro y
  rw [Aw,nA h1,hl,Aw]
  split
  ·rw [if_neg oZ]
  ·rfl
theorem Zm {G:List UInt8}(h:G.length=22528):(List.range 256).flatMap (gS G)=G:=by
 have:∀m,m<=256->(List.range m).flatMap (gS G)=G.take (m*88):=by
  intro m
  induction m with
  | zero=>intro _;rfl
  | succ m ih =>
   intro hm
   rw [List.range_succ,List.flatMap_append,ih oZ,List.flatMap_singleton,Nat.succ_mul,List.take_add];rfl
 rw [this 256 (Nat.le_refl _),List.take_of_length_le oZ]
theorem Ui {no:Nat}{X:List UInt8}(hX:X.length=88)(eV:1<=no/\no<=281474976710656):gA (iV no X)=true/\fo (iV no X)=no/\J5 (iV no X)=X:=by
 have jo:(JO (aF (bU no X))).length=32:=ln _
 have e1:(iV no X).drop 32=bU no X:=by unfold iV;rw [List.drop_left' jo]
 have e2:fo (iV no X)=no:=by
  unfold fo iV bU
  exact bF _ _ no jo oZ
 have e3:J5 (iV no X)=X:=by
  unfold J5
  rw [show (40:Nat)=32+8 from rfl,<-List.drop_drop,e1]
  unfold bU
  rw [List.drop_left' (af ..),List.take_of_length_le oZ]
 refine ⟨?_,e2,e3⟩
 unfold gA
 rw [e1,e2,Bool.and_eq_true]
 refine ⟨decide_eq_true ?_,decide_eq_true eV⟩
 unfold iV
 exact Cb (nc _) [] _ rfl
structure ez (R:Rk)(w no:Nat)(G:List UInt8):Prop where
 len:G.length=22528
 sec:∀k,k<256->∃s:eF,(∀i,i<w->R.now i (18+k)=s)/\((gA s=true/\fo s<no/\J5 s=gS G k)\/(gA s=false/\gS G k=List.replicate 88 0))
section
variable {ls:List (Option Lv)}(hI:wm ls){R:Rk}{no n:Nat}{G:List UInt8}
include hI
theorem ez.tD (h:ez R ls.length no G)(hw:1<=ls.length)(bW:R.off=false){k:Nat}(hk:k<256):tD R ls k=gS G k:=by
 obtain ⟨s,h1,h2⟩:=h.sec k hk
 have key:∀j,j<=ls.length->pZ R ls k j=if gA s=true/\0<j then (fo s,J5 s) else (0,List.replicate 88 0):=by
  intro j
  induction j with
  | zero=>intro _;rw [if_neg oZ];rfl
  | succ j ih =>
   intro hj
   obtain ⟨x,hx,uW⟩:=hI j oZ
   rw [wh hx,ih oZ,uW,h1 j oZ,wg]
   by_cases c:gA s=true
   ·have:=Ae c
    rw [if_pos (show gA s=true/\0<j+1 from ⟨c,by omega⟩)]
    by_cases c2:0<j
    ·rw [if_pos (show gA s=true/\0<j from ⟨c,c2⟩)];simp
    ·rw [if_neg (show ¬(gA s=true/\0<j) from fun h=>c2 h.2),c,decide_eq_true (show 0<fo s by omega)];rfl
   ·simp only [c,false_and,if_false,Bool.false_and,Bool.false_eq_true]
 unfold Go.Sl.tD
 rw [bW,if_neg (by simp),key _ (Nat.le_refl _)]
 rcases h2 with ⟨a,b,c⟩ | ⟨a,b⟩
 ·rw [if_pos ⟨a,by omega⟩];exact c
 ·rw [if_neg (by rw [a];simp)];exact b.symm
theorem ez.all (h:ez R ls.length no G)(hw:1<=ls.length)(bW:R.off=false):aX R ls=G:=by
 have e:aX R ls=(List.range 256).flatMap (gS G):=by
  unfold aX
  have:∀m,m<=256->(List.range m).flatMap (Go.Sl.tD R ls)=(List.range m).flatMap (gS G):=by
   intro m
   induction m with
   | zero=>intro _;rfl
   | succ m ih=>intro hm;rw [List.range_succ,List.flatMap_append,List.flatMap_append,ih oZ,List.flatMap_singleton,List.flatMap_singleton,h.tD hI hw bW oZ]
  exact this _ (Nat.le_refl _)
 rw [e,Zm h.len]
structure IX (R R':Rk):Prop where
 on:R'.on
 now:∀i a,(a<18\/274<=a)->R'.now i a=R.now i a
 pl:∀i a,R'.pl i a=R.pl i a
 size:∀i,R'.size i=R.size i
 live:∀i,R'.live i↔R.live i
theorem IY (hw:1<=ls.length/\ls.length<=5):∀(m:Nat) (R:Rk) (no:Nat) (G:List UInt8) (a:Nat) (b:List UInt8),R.on->(∀i,i<ls.length->324<=R.size i)->ez R ls.length no G->a+b.length<=22528->b.length<=m->1<=no->no+m<=281474976710656 ->
  IX R (bP ls m R no a b).1/\ez (bP ls m R no a b).1 ls.length (bP ls m R no a b).2 (sA G a b)/\no<=(bP ls m R no a b).2/\(bP ls m R no a b).2<=no+m/\(bP ls m R no a b).1.ws.length<=R.ws.length+5*m:=by
 have h0:∀(R:Rk) (no:Nat) (G:List UInt8) (a:Nat) (m:Nat),R.on->ez R ls.length no G->IX R R/\ez R ls.length no (sA G a [])/\no<=no/\no<=no+m/\R.ws.length<=R.ws.length+5*m:=fun R no G a m bW hG=>by
  have e:sA G a []=G:=by simp [sA]
  rw [e]
  exact ⟨⟨bW,fun _ _ _=>rfl,fun _ _=>rfl,fun _=>rfl,fun _=>Iff.rfl⟩,hG,Nat.le_refl _,by omega,by omega⟩
 intro m
 induction m with
 | zero =>
  intro R no G a b bW bx hG ha hb h1 h2
  obtain rfl:=List.eq_nil_of_length_eq_zero (show b.length=0 by omega)
  exact h0 R no G a 0 bW hG
 | succ m ih =>
  intro R no G a b bW bx hG ha hb h1 h2
  unfold bP
  by_cases Wu:b=[]
  ·subst Wu
   rw [if_pos rfl]
   exact h0 R no G a _ bW hG
  ·rw [if_neg Wu]
   have PC:0<b.length:=List.length_pos_iff.2 Wu
   have hk:a / 88<256:=by omega
   have Wc:=Nat.mod_lt a (show 0<88 by omega)
   rw [hG.tD hI hw.1 bW.2 hk]
   obtain ⟨c,hc⟩:∃c,c=min b.length (88 - a % 88):=⟨_,rfl⟩
   obtain ⟨X,hX⟩:∃X,X=nY (gS G (a / 88)) (a % 88) b:=⟨_,rfl⟩
   have hXl:X.length=88:=by rw [hX];exact yx (PZ hG.len hk) Wc
   obtain ⟨R',Mg⟩:∃R',R'=R.run (upto (jH ls (a / 88) no X) ls.length):=⟨_,rfl⟩
   rw [<-hX,<-hc,<-Mg]
   have Zn:R'.on:=by rw [Mg];exact bW.run _
   simp only [Zn.2,Bool.false_eq_true,if_false]
   have qE:(b.take c).length=c:=by rw [List.length_take];omega
   have Gh:IX R R':=⟨Zn,fun i x hx=>by rw [Mg];exact bJ fun s hs=>by have:=(tE hI).1 hs;omega,fun i x=>by rw [Mg];exact G4 fun d=>PX,fun i=>by rw [Mg,Rk.dj],fun i=>by rw [Mg];exact Rk.eh ..⟩
   have aei:ez R' ls.length (no+1) (sA G a (b.take c)):=by
    refine ⟨by rw [Av (by rw [qE,hG.len];omega),hG.len],fun k RL => ?_⟩
    rw [Zl hG.len ha hc RL]
    by_cases ck:k=a / 88
    ·subst ck
     obtain ⟨g1,g2,g3⟩:=Ui hXl (no:=no) ⟨h1,by omega⟩
     refine ⟨iV no X,fun i hi => ?_,.inl ⟨g1,by omega,by rw [if_pos rfl,g3,hX]⟩⟩
     rw [Mg]
     exact gZ bW (by have:=bx i hi;omega) (fun b' Ji=>((tE hI).1 Ji).2.1) ((tE hI).2 ⟨hi,rfl,rfl⟩)
    ·obtain ⟨s,g1,g2⟩:=hG.sec k RL
     rw [if_neg ck]
     refine ⟨s,fun i hi => ?_, ?_⟩
     ·rw [Mg,bJ fun s hs=>by have:=(tE hI).1 hs;omega]
      exact g1 i hi
     ·rcases g2 with ⟨a1,a2,a3⟩ | g2
      ·exact .inl ⟨a1,by omega,a3⟩
      ·exact .inr g2
   have Cz:R'.ws.length<=R.ws.length+5:=by
    have e1:=Rk.iJ R (upto (jH ls (a / 88) no X) ls.length)
    have e2:=cR (f:=jH ls (a / 88) no X) (c:=1) (DV ls _ _ _) ls.length
    rw [<-Mg] at e1
    omega
   have sQ:(b.drop c).length=b.length - c:=List.length_drop ..
   obtain ⟨i1,i2,i3,i4,i5⟩:=ih R' (no+1) (sA G a (b.take c)) (a+c) (b.drop c) Zn (fun i hi=>by rw [Gh.size];exact bx i hi) aei oZ oZ oZ oZ
   rw [Uh (by rw [hG.len];omega) oZ] at i2
   refine ⟨⟨i1.on,fun i x hx=>by rw [i1.now i x hx,Gh.now i x hx],fun i x=>by rw [i1.pl,Gh.pl],fun i=>by rw [i1.size,Gh.size],fun i=>(i1.live i).trans (Gh.live i)⟩,i2,by omega,by omega,by omega⟩
end
def au.nv (o:au):au:={ o with v:=.int .i64 0 }
theorem Zo {G b:List UInt8}{r:List Value}{x m:Nat}(hG:G.length=22528)(hb:b.length=m)(h:x+m<=22528):(ak G++r).take x++(ak b).take (min m (22528 - x))++(ak G++r).drop (x+min m (22528 - x))=ak (sA G x b)++r:=by
 have hl:(ak G).length=22528:=by rw [ai,hG]
 have Ba:(ak b).take m=ak b:=List.take_of_length_le (by rw [ai];omega)
 rw [Nat.min_eq_left oZ,Ba,List.take_append_of_le_length oZ,List.drop_append_of_le_length oZ,aL,aY,<-List.append_assoc,<-aE,<-aE,<-hb];rfl
end Go.Sl
namespace Go.Proofs.YtcfioaeamfappaaGreatDoor
open Go.Sl
set_option maxRecDepth 10000
set_option maxHeartbeats 4000000
section
variable (a:Nat)(vL:Value)(txg note room:Nat)(G:List UInt8)(Zp:G.length=22528)(adG:Option Addr)(cG:Nat)(DG:Chunk)(hG:az DG 5 1 (.slice adG 22528 cG) 22528 (ak G))(vS:Value)
theorem G6 (x:Int)(gf:Option Addr)(m cb:Nat)(h:x<0\/22528<x\/22528 - x<m):Ct 57 [ptr a,.int .i64 x,.slice gf m cb] [[(a,eK vL txg note room (.slice adG 22528 cG) vS)]] fun u Bs=>u = .int .i64 1/\Bs=[[(a,eK vL txg note room (.slice adG 22528 cG) vS)]]:=by
 refine st Tryz.func57 fun w0 => ?_
 by_cases h1:x<0
 ·refine gz ?_
  exact fin ⟨rfl,rfl⟩ aa
 ·have h:=h.resolve_left h1
  by_cases h2:22528<x
  ·refine gz ?_
   exact fin ⟨rfl,rfl⟩ aa
  ·have h:=h.resolve_left h2
   have hs:IntKind.i64.wrap (22528 - x)=22528 - x:=IntWalk.i64_in _ oZ
   refine gz ?_
   exact fin ⟨rfl,rfl⟩ aa
theorem G7 (x y:Int)(h:x<0\/y<0\/22528<x\/22528 - x<y):Ct 66 [ptr a,.int .i64 x,.int .i64 y] [[(a,eK vL txg note room (.slice adG 22528 cG) vS)]] fun u Bs=>u = .tuple #[.slice none 0 0,.int .i64 1]/\Bs=[[(a,eK vL txg note room (.slice adG 22528 cG) vS)]]:=by
 refine st Tryz.func66 fun w0 => ?_
 by_cases h1:x<0
 ·refine gz ?_
  exact fin ⟨rfl,rfl⟩ aa
 ·have h:=h.resolve_left h1
  by_cases h2:y<0
  ·refine gz ?_
   exact fin ⟨rfl,rfl⟩ aa
  ·have h:=h.resolve_left h2
   by_cases h3:22528<x
   ·refine gz ?_
    exact fin ⟨rfl,rfl⟩ aa
   ·have h:=h.resolve_left h3
    have hs:IntKind.i64.wrap (22528 - x)=22528 - x:=IntWalk.i64_in _ oZ
    refine gz ?_
    exact fin ⟨rfl,rfl⟩ aa
include hG
theorem P3:Ct 121 [ptr a] [[(a,eK vL txg note room (.slice adG 22528 cG) vS)],DG] fun _ Bs=>∃bG cS DS,az DS 5 1 (.slice bG 22528 cS) 22528 (ak G)/\Bs=[[(a,eK vL txg note room (.slice adG 22528 cG) (.slice bG 22528 cS))],DG,DS]:=by
 have Uj:=hG.rd
 refine st Tryz.func121 fun w0 => ?_
 refine gp ?_;intro bG cS DS Uk
 refine gz ?_
 exact fin ⟨bG,cS,DS,Uk,rfl⟩ aa
theorem P4 (x m:Nat)(h:x+m<=22528):Ct 66 [ptr a,.int .i64 x,.int .i64 m] [[(a,eK vL txg note room (.slice adG 22528 cG) vS)],DG] fun u Bs=>∃ba c',u = .tuple #[.slice ba m c',.int .i64 0]/\Rd DG 1 (.slice ba m c') m (ak ((G.drop x).take m))/\Bs=[[(a,eK vL txg note room (.slice adG 22528 cG) vS)],DG]:=by
 have Uj:=hG.rd
 have abd:=hG.dL
 have hs:IntKind.i64.wrap (22528 - (x:Int))=((22528 - x:Nat):Int):=by rw [IntWalk.i64_in _ oZ];omega
 have nZ:((ak G).drop (x*1)).take ((x+m - x)*1)=ak ((G.drop x).take m):=by rw [Nat.mul_one,Nat.mul_one,aY,aL,Nat.add_sub_cancel_left]
 have hn:x+m - x=m:=Nat.add_sub_cancel_left ..
 refine st Tryz.func66 fun w0 => ?_
 refine gw ?_;intro fJ zx
 refine gz ?_
 exact fin ⟨fJ,_,rfl,zx,rfl⟩ aa
include Zp in
theorem P5 (x:Nat)(b:List UInt8)(m:Nat)(hm:b.length=m)(h:x+m<=22528)(B:Chunk)(gf:Option Addr)(cb:Nat)(hB:Rd B 1 (.slice gf m cb) m (ak b)):Ct 57 [ptr a,.int .i64 x,.slice gf m cb] [[(a,eK vL txg note room (.slice adG 22528 cG) vS)],DG,B] fun u Bs=>u = .int .i64 0/\∃wo,az wo 5 1 (.slice adG 22528 cG) 22528 (ak (sA G x b))/\Bs=[[(a,eK vL txg note room (.slice adG 22528 cG) vS)],wo,B]:=by
 obtain ⟨g,c2,r,hv,rfl,F7,lS,tc⟩:=hG.opened oZ
 cases hv
 rw [ai,Zp] at tc
 have Gy:(sA G x b).length=22528:=by rw [Av oZ,Zp]
 have hs:IntKind.i64.wrap (22528 - (x:Int))=((22528 - x:Nat):Int):=by rw [IntWalk.i64_in _ oZ];omega
 have zI:=Zo (r:=r) Zp hm h
 have iK:(ak G++r).length=22528+r.length:=by rw [List.length_append,ai,Zp]
 refine st Tryz.func57 fun w0 => ?_
 by_cases hx:x<cG\/x=0
 case' pos =>
  refine gv ?_
  refine gy ?_
 case' neg =>
  have PC:b=[]:=List.eq_nil_of_length_eq_zero oZ
  have zI:(ak G++r).take 0++(ak b).take (min m 0)++(ak G++r).drop (0+min m 0)=ak (sA G x b)++r:=by
   rw [PC,Nat.min_zero];simp [sA]
  refine gve ?_
  refine gy ?_
 all_goals
  refine gz ?_
  exact fin ⟨rfl,_,⟨by rw [ai,Gy],aK _,.inr ⟨g,cG,r,rfl,rfl,F7,lS,by rw [ai,Gy];exact tc⟩⟩,rfl⟩ aa
end
theorem Ul (room:Nat):Ct 18 [.int .i64 room] [] fun u Bs=>∃a g1 g2,u=ptr a/\Bs=[[(a,eK (.slice none 0 0) 1 0 room (.slice (some ⟨g1,0,none⟩) 22528 22528) (.slice (some ⟨g2,0,none⟩) 22528 22528))],[(g1,av (ak (List.replicate 22528 0)) 5)],[(g2,av (ak (List.replicate 22528 0)) 5)]]:=by
 refine st Tryz.func18 fun w0 => ?_
 refine gdo (aA.cons (0,0) (aA.fork 1 (aA.yP [(2,1),(3,0),(4,3),(5,2)]) 2 (aA.yP [(1,1),(3,0),(4,3),(5,2)]))) ?_
 refine gk ?_ ?_
 case' refine_1 =>
  refine gm ?_;intro g1
  refine gm ?_;intro g2
 case' refine_2 =>
  refine gm ?_;intro g2
  refine gm ?_;intro g1
 all_goals
  rw [Oh 22528]
  refine ga ?_;intro a
  refine gz ?_
  exact fin ⟨a,g1,g2,rfl,rfl⟩ aa
theorem wq (a:Nat)(l:List au)(aQ:mJ l)(txg note room:Nat)(G S:List UInt8)(adG:Option Addr)(cG:Nat)(DG:Chunk)(hG:Rd DG 1 (.slice adG 22528 cG) 22528 (ak G))(bG:Option Addr)(cS:Nat)(DS:Chunk)(hS:Rd DS 1 (.slice bG 22528 cS) 22528 (ak S))(ad:Option Addr)(c:Nat)(D O:Chunk)(hD:Rd D 130 (.slice ad l.length c) l.length (l.flatMap au.lay))(hO:DE O l) :
  Ct 19 [ptr a] [[(a,eK (.slice ad l.length c) txg note room (.slice adG 22528 cG) (.slice bG 22528 cS))],D,O,DG,DS] fun u Bs=>∃a' l' ba c' D' E kS yD wo j8 xA Ax,u=ptr a'/\l'.map au.nv=l.map au.nv/\az D' 65 130 (.slice ba l'.length c') l'.length (l'.flatMap au.lay)/\DE E l'/\az wo 5 1 (.slice kS 22528 yD) 22528 (ak G)/\az Ax 5 1 (.slice j8 22528 xA) 22528 (ak S) /\
   Bs=[[(a',eK (.slice ba l'.length c') txg note room (.slice kS 22528 yD) (.slice j8 22528 xA))],D',E,wo,Ax,[(a,eK (.slice ad l.length c) txg note room (.slice adG 22528 cG) (.slice bG 22528 cS))],D,O,DG,DS]:=by
 have nJ:=aQ.jE
 refine st Tryz.func19 fun w0 => ?_
 refine gd [0,4,8,12,16,20,24,28,32,36,40,44,48,52,56,60,68,72,76,80,65,85,88,95,98] ?_
 refine gp ?_;intro kS yD wo xq
 refine gp ?_;intro j8 xA Ax rU
 refine ga ?_;intro a'
 refine gl [0,3] (fun ((i,_):Nat×List au×Option Addr×Nat×Chunk×Chunk)=>[(4,.int .i64 i)]) (fun (_,L,ba,c',D',E)=>[[(a',eK (.slice ba L.length c') txg note room (.slice kS 22528 yD) (.slice j8 22528 xA))],D',E]) (fun (i,L,ba,c',D',E)=>i<=l.length/\L.length=i/\L.map au.nv=(l.take i).map au.nv/\az D' 65 130 (.slice ba L.length c') L.length (L.flatMap au.lay)/\DE E L) (fun (i,_)=>l.length - i) (0,[],none,0,[],[]) ⟨by omega,rfl,rfl,az.nil _ _,fun _ h=>by cases h⟩ ?_
 rintro ⟨i,L,ba,c',D',E⟩ ⟨hi,hL,hLm,eo,hE⟩
 refine gi ?_ ?_ <;> intro bh
 ·have bo:i<l.length:=by omega
  obtain ⟨o,ho⟩:∃o,l[i]? = some o:=⟨_,List.getElem?_eq_getElem bo⟩
  have qG:=List.mem_of_getElem? ho
  have AY:=aQ.sm o qG
  obtain ⟨⟨j2,cv,hv,RA⟩,Mf⟩:=hO o qG
  rw [hv] at Mf
  obtain ⟨gD,off,rfl⟩:=hD.addr oZ
  have hs:=ar au.aj l i o ho
  have Gy:=o.aj
  have fE:=o.bC (by rw [hv];rfl)
  have Xn:o.lay[1]? = some (.slice j2 o.b.length cv):=by rw [<-hv];exact au.rD _
  refine ga ?_;intro b5
  refine gp ?_;intro Aq cE F hF
  have e1:o.lay.set 1 (.slice Aq o.b.length cE)=({ o with v:=.slice Aq o.b.length cE }:au).lay:=au.TW _ _
  have LS:=({ o with v:=.slice Aq o.b.length cE }:au).aj
  have eV:=({ o with v:=.slice Aq o.b.length cE }:au).bC rfl
  refine go ?_
  rw [e1]
  refine qC [[(b5,av ({ o with v:=.slice Aq o.b.length cE }:au).lay 65)],[(a',eK (.slice ba L.length c') txg note room (.slice kS 22528 yD) (.slice j8 22528 xA))]] [0,4,8,12,16,20,25,29,32,36,43] ?_
  refine gm ?_;intro b56
  have afS:Rd [(b56,av ({ o with v:=.slice Aq o.b.length cE }:au).lay 65)] 130 (.slice (some ⟨b56,0,none⟩) 1 1) 1 ({ o with v:=.slice Aq o.b.length cE }:au).lay:=aw (by rw [LS]) eV (by simp) _
  refine gp ?_;intro ad2 c2 D2 BR
  have jc:(L++[{ o with v:=.slice Aq o.b.length cE }]).length=L.length+1:=by simp
  refine gn ?_
  refine ⟨(i+1,L++[{ o with v:=.slice Aq o.b.length cE }],ad2,c2,D2,E++F),⟨by omega,by rw [jc,hL], ?_,by rw [jc];simpa using BR,fun q hq => ?_⟩,by simp only;omega,aq,_,by simp only [jc];exact aa⟩
  ·rw [aG l bo,List.map_append,List.map_append,hLm]
   have e:l[i]=o:=(List.getElem?_eq_some_iff.1 ho).2
   rw [e];rfl
  ·rcases List.mem_append.1 hq with hq | hq
   ·exact ⟨(hE q hq).1,(hE q hq).2.sub fun y hy=>List.mem_append_left _ hy⟩
   ·rw [List.mem_singleton.1 hq]
    exact ⟨⟨Aq,cE,rfl,hF.dL⟩,hF.rd.sub fun y hy=>List.mem_append_right _ hy⟩
 ·obtain rfl:i=l.length:=by omega
  rw [List.take_length] at hLm
  refine gz ?_
  exact fin ⟨a',L,ba,c',D',E,kS,yD,wo,j8,xA,Ax,rfl,hLm,eo,hE,xq,rU,rfl⟩ aa
abbrev l3 (p:Nat)(vQ:Value)(s a d:Nat):Obj:=av [ptr p,vQ,ptr s,ptr a,ptr d] 39
theorem K7 (rg p s a d:Nat)(vQ:Value)(vL vL':Value)(txg note room abH dS Wz:Nat)(vS vG' vS':Value)(adG:Option Addr)(cG:Nat)(DG:Chunk)(G:List UInt8)(hG:Rd DG 1 (.slice adG 22528 cG) 22528 (ak G))(hf:Ct 121 [ptr a] [[(a,eK vL txg note room (.slice adG 22528 cG) vS)],DG] fun _ Bs=>∃bG cS DS,az DS 5 1 (.slice bG 22528 cS) 22528 (ak G)/\Bs=[[(a,eK vL txg note room (.slice adG 22528 cG) (.slice bG 22528 cS))],DG,DS]) :
  Ct 58 [ptr rg] [[(rg,l3 p vQ s a d)],[(a,eK vL txg note room (.slice adG 22528 cG) vS)],DG,[(d,eK vL' abH dS Wz vG' vS')]] fun _ Bs=>∃bG cS DS fU cT DT,az DS 5 1 (.slice bG 22528 cS) 22528 (ak G)/\az DT 5 1 (.slice fU 22528 cT) 22528 (ak G) /\
   Bs=[[(rg,l3 p vQ s a d)],[(a,eK vL txg note room (.slice adG 22528 cG) (.slice bG 22528 cS))],DG,DS,[(d,eK vL' abH dS Wz vG' (.slice fU 22528 cT))],DT]:=by
 refine st Tryz.func58 fun w0 => ?_
 refine gc hf ?_
 rintro _ _ ⟨bG,cS,DS,hS,rfl⟩
 refine gd [0,4,8,12,16,20,24,28,32,36,40,45,48,52,59] ?_
 refine gp ?_;intro fU cT DT hT
 refine gz ?_
 exact fin ⟨bG,cS,DS,fU,cT,DT,hS,hT,rfl⟩ aa
theorem Um (rg p s a d w cq:Nat)(lC:Option Addr)(K C Q:Chunk)(P0:Chunk->Prop)(nz:Ct 22 [ptr p,.slice none 0 0] [C] fun _ Bs=>∃C',P0 C'/\Bs=[C'])
  (P1:Chunk->Nat->Chunk->Prop) (himp:∀C',P0 C'->Ct 23 [.slice lC w cq] [K,C',Q] fun u Bs=>∃t V,u = .tuple #[ptr t,.int .i64 0]/\P1 C' t V/\Bs=[V,K,C',Q])
  (P2:Nat->Chunk->Chunk->Chunk->Chunk->Chunk->Chunk->Chunk->Chunk->Prop) (nC:∀C' t V,P1 C' t V->Ct 24 [ptr t] [K,C',V] fun u Bs=>∃s b0 b1 b2 b3 b4 b5 b6 b7,u = .tuple #[ptr s,.int .i64 0]/\P2 s b0 b1 b2 b3 b4 b5 b6 b7/\Bs=[b0,K,b1,b2,b3,b4,b5,b6,b7])
  (l:List au) (aQ:mJ l) (txg note room:Nat) (G S:List UInt8) (adG:Option Addr) (cG:Nat) (DG:Chunk) (hG:Rd DG 1 (.slice adG 22528 cG) 22528 (ak G)) (bG:Option Addr) (cS:Nat) (DS:Chunk) (hS:Rd DS 1 (.slice bG 22528 cS) 22528 (ak S)) (ad:Option Addr) (c:Nat) (D O:Chunk) (hD:Rd D 130 (.slice ad l.length c) l.length (l.flatMap au.lay)) (hO:DE O l) :
  Ct 9 [ptr rg] [[(rg,l3 p (.slice lC w cq) s a d)],K,C,Q,[(d,eK (.slice ad l.length c) txg note room (.slice adG 22528 cG) (.slice bG 22528 cS))],D,O,DG,DS] fun u Bs=>u = .bool true/\∃s' b0 b1 b2 b3 b4 b5 b6 b7 a' l' ba c' D' E kS yD wo j8 xA Ax,P2 s' b0 b1 b2 b3 b4 b5 b6 b7/\l'.map au.nv=l.map au.nv/\az D' 65 130 (.slice ba l'.length c') l'.length (l'.flatMap au.lay)/\DE E l'/\az wo 5 1 (.slice kS 22528 yD) 22528 (ak S)/\az Ax 5 1 (.slice j8 22528 xA) 22528 (ak S) /\
   Bs=[[(rg,l3 p (.slice lC w cq) s' a' d)],b0,K,b1,b2,b3,b4,b5,b6,b7,Q,[(a',eK (.slice ba l'.length c') txg note room (.slice kS 22528 yD) (.slice j8 22528 xA))],D',E,wo,Ax,[(d,eK (.slice ad l.length c) txg note room (.slice adG 22528 cG) (.slice bG 22528 cS))],D,O,DG,DS]:=by
 refine st Tryz.func9 fun w0 => ?_
 refine gc nz ?_
 rintro _ _ ⟨C',h0,rfl⟩
 refine gc (himp C' h0) ?_
 rintro _ _ ⟨t,V,rfl,h1,rfl⟩
 refine gc (nC C' t V h1) ?_
 rintro _ _ ⟨s',b0,b1,b2,b3,b4,b5,b6,b7,rfl,h2,rfl⟩
 refine gc (wq d l aQ txg note room G S adG cG DG hG bG cS DS hS ad c D O hD hO) ?_
 rintro _ _ ⟨a',l',ba,c',D',E,kS,yD,wo,j8,xA,Ax,rfl,hl,eo,hE,xq,rU,rfl⟩
 refine gd [0,4,8,12,16,21,24,28,35] ?_
 refine gp ?_;intro fU cT DT hT
 refine gz ?_
 exact fin ⟨rfl,s',b0,b1,b2,b3,b4,b5,b6,b7,a',l',ba,c',D',E,fU,cT,DT,j8,xA,Ax,h2,hl,eo,hE,hT,rU,rfl⟩ aa
end Go.Proofs.YtcfioaeamfappaaGreatDoor
namespace Go.Sl
def qJ (n:Nat):Nat->Rk
 | 0=>⟨[],[],none,false⟩
 | k+1=>(qJ n k).add n
end Go.Sl
namespace Go.Proofs.YtcfioaeamfappaaGreatDoor
open Go.Sl
set_option maxRecDepth 10000
set_option maxHeartbeats 4000000
theorem Un (tp:Tp)(pr:Bool)(n w:Nat)(ok:dE tp pr n w)(dx:n<=2048)(K O:Chunk)(Is:Option Addr)(co:Nat)(hO:az O 23 3 (.slice Is 1 co) 1 tp.lay)
  (P1:Nat->List Nat->Nat->Chunk->Chunk->Prop) (hcr:∀p qs C Q lC cq,qs.length=w->br p qs (qJ n w) C->Rd Q 1 (.slice lC w cq) w (qs.map ptr)->w<=cq->Ct 15 [.int .u64 11,.slice Is 1 co,.slice lC w cq] [K,C,O,Q] fun u Bs=>∃t V C',u = .tuple #[ptr t,.int .i64 0]/\P1 p qs t V C'/\Bs=[V,K,C',O,Q])
  (eV:bD pr w n / aN pr w 1024 / 4<10->∀p qs t V C',P1 p qs t V C'->Ct 16 [ptr t] [K,C',V] fun v Bs=>v = .tuple #[.pointer none,.int .i64 3]/\Bs=[K,C',V])
  (P2:Nat->List Nat->Nat->Chunk->Chunk->Chunk->Chunk->Chunk->Chunk->Prop) (hnw:10<=bD pr w n / aN pr w 1024 / 4->∀p qs t V C',P1 p qs t V C'->Ct 16 [ptr t] [K,C',V] fun v Bs=>∃s b0 b1 b2 b3 b4 b5,v = .tuple #[ptr s,.int .i64 0]/\P2 p qs s b0 b1 b2 b3 b4 b5/\Bs=[b0,K,b1,b2,b3,b4,b5]) :
  Ct 5 [.slice Is 1 co] [K,O] fun u Bs=>(bD pr w n / aN pr w 1024 / 4<10/\(∃x,u = .tuple #[x,.bool false,.bool true])/\Bs=[K,O]) \/
   10<=bD pr w n / aN pr w 1024 / 4/\∃rg p qs lC cq Q s b0 b1 b2 b3 b4 b5 a adG cG DG bG cS DS d ba c' D' E kS yD wo j8 xA Ax,u = .tuple #[ptr rg,.bool true,.bool true]/\qs.length=w/\az Q 47 1 (.slice lC w cq) w (qs.map ptr)/\P2 p qs s b0 b1 b2 b3 b4 b5 /\
    az DG 5 1 (.slice adG 22528 cG) 22528 (ak (List.replicate 22528 0))/\az DS 5 1 (.slice bG 22528 cS) 22528 (ak (List.replicate 22528 0))/\az D' 65 130 (.slice ba 0 c') 0 []/\az wo 5 1 (.slice kS 22528 yD) 22528 (ak (List.replicate 22528 0))/\az Ax 5 1 (.slice j8 22528 xA) 22528 (ak (List.replicate 22528 0)) /\
    Bs=[[(rg,l3 p (.slice lC w cq) s a d)],b0,K,b1,b2,b3,b4,b5,O,Q,[(a,eK (.slice none 0 0) 1 0 (bD pr w n / aN pr w 1024 / 4 - 10) (.slice adG 22528 cG) (.slice bG 22528 cS))],DG,DS,[(d,eK (.slice ba 0 c') 1 0 (bD pr w n / aN pr w 1024 / 4 - 10) (.slice kS 22528 yD) (.slice j8 22528 xA))],D',E,wo,Ax]:=by
 have hOr:=hO.rd
 have hrm:=Ud tp pr n w ok dx O Is co hOr
 have hw:=ok.hw
 have hn:=ok.hn
 have hz:=iA pr ok.hw ⟨ok.hn.1,dx⟩
 have hq2:bD pr w n / aN pr w 1024 / 4<=10240:=Nat.le_trans (Nat.div_le_self _ _) (Nat.le_trans (Nat.div_le_self _ _) hz.2)
 generalize bD pr w n / aN pr w 1024 / 4=q at *
 obtain ⟨gO,oO,rfl⟩:=hOr.addr oZ
 have hs:Sub (0*3) tp.lay tp.lay:=ar Tp.aj [tp] 0 tp rfl
 have xg:=hs 1 (.int .i64 (w:Nat)) (by rw [ok.ht];rfl)
 have lU:=hs 2 (.int .i64 (n:Nat)) (by rw [ok.ht];rfl)
 refine st Tryz.func5 fun w0 => ?_
 refine gc GF ?_
 rintro _ _ ⟨p,C,rfl,hC,rfl⟩
 refine ga ?_;intro rg
 refine gl [0,5] (fun ((i,_):Nat×List Nat×Value×Chunk×Chunk)=>[(6,.int .i64 i)]) (fun (_,_,vQ,Q,C)=>[[(rg,av [ptr p,vQ,.pointer none,.pointer none,.pointer none] 39)],Q,C]) (fun (i,qs,vQ,Q,C)=>i<=1/\qs.length=i*w/\az Q 47 1 vQ qs.length (qs.map ptr)/\br p qs (qJ n qs.length) C) (fun (i,_)=>1 - i) (0,[],.slice none 0 0,[],C) ⟨by omega,by simp,az.nil _ _,hC⟩ ?_
 clear hC
 rintro ⟨i,qs,vQ,Q,C⟩ ⟨hi,Du,hQ,hC⟩
 refine gi ?_ ?_ <;> intro bh
 ·obtain rfl:i=0:=by omega
  refine gl [0,5,6] (fun ((i,_):Nat×List Nat×Value×Chunk×Chunk)=>[(7,.int .i64 i)]) (fun (_,_,vQ,Q,C)=>[[(rg,av [ptr p,vQ,.pointer none,.pointer none,.pointer none] 39)],Q,C]) (fun (i,qs,vQ,Q,C)=>i<=w/\qs.length=i/\az Q 47 1 vQ qs.length (qs.map ptr)/\br p qs (qJ n qs.length) C) (fun (i,_)=>w - i) (0,qs,vQ,Q,C) ⟨by omega,by omega,hQ,hC⟩ ?_
  clear hQ hC Du
  rintro ⟨k,qs,vQ,Q,C⟩ ⟨hk,rfl,hQ,hC⟩
  refine gg ?_ ?_ <;> intro pD
  ·refine gd [0,4,8,12,16,20,24,28,32,39,42,46,50,54,58] ?_
   refine gc (YY p qs _ C hC n oZ oZ) ?_
   rintro _ _ ⟨q',C',rfl,bA,rfl⟩
   refine gm ?_;intro b69
   refine gp ?_;intro fJ c3 Q3 hQ3
   refine gn ?_
   exact ⟨(qs.length+1,qs++[q'],_,Q3,C'),⟨by omega,by simp,by simpa using hQ3,by rw [List.length_append];exact bA⟩,by simp only;omega,aq,_,aa⟩
  ·obtain rfl:qs.length=w:=by omega
   refine gn ?_
   exact ⟨(1,qs,vQ,Q,C),⟨by omega,by omega,hQ,hC⟩,by simp only;omega,aq,_,aa⟩
 ·obtain rfl:i=1:=by omega
  rw [Nat.one_mul] at Du
  subst Du
  obtain ⟨lC,cq,rfl⟩:=hQ.slice
  refine gc (hcr p qs C Q lC cq rfl hC hQ.rd (by have:=hQ.dL;omega)) ?_
  rintro _ _ ⟨t,V,C',rfl,h1,rfl⟩
  by_cases hlq:q<10
  ·refine gc (eV hlq p qs t V C' h1) ?_
   rintro _ _ ⟨rfl,rfl⟩
   refine gc hrm ?_
   rintro _ _ ⟨rfl,rfl⟩
   refine gz ?_
   exact fin (.inl ⟨hlq,⟨_,rfl⟩,rfl⟩) aa
  ·have hlq:10<=q:=by omega
   rw [show (q:Int) - 10=((q - 10:Nat):Int) by omega] at hrm
   refine gc (hnw hlq p qs t V C' h1) ?_
   rintro _ _ ⟨s,b0,b1,b2,b3,b4,b5,rfl,h2,rfl⟩
   refine gc hrm ?_
   rintro _ _ ⟨rfl,rfl⟩
   refine gc (Ul (q - 10)) ?_
   rintro _ _ ⟨a,g1,g2,rfl,rfl⟩
   have hb:=fun g=>T3 (g:=g) (T:=5) (b:=List.replicate 22528 0) (List.length_replicate ..) oZ
   refine gc (wq a [] ⟨by simp,by simp,by simp⟩ 1 0 (q - 10) (List.replicate 22528 0) (List.replicate 22528 0) (some ⟨g1,0,none⟩) 22528 _ (hb g1).rd (some ⟨g2,0,none⟩) 22528 _ (hb g2).rd none 0 [] [] (Rd.nil [] 130) (by simp [DE])) ?_
   rintro _ _ ⟨d,l',ba,c',D',E,kS,yD,wo,j8,xA,Ax,rfl,hl,eo, -,xq,rU,rfl⟩
   obtain rfl:l'=[]:=by cases l' with
    | nil=>rfl
    | cons x r=>simp at hl
   refine gz ?_
   exact fin (.inr ⟨hlq,rg,p,qs,lC,cq,Q,s,b0,b1,b2,b3,b4,b5,a,_,_,_,_,_,_,d,ba,c',D',E,kS,yD,wo,j8,xA,Ax,rfl,rfl,hQ,h2,hb g1,hb g2,eo,xq,rU,rfl⟩) aa
theorem Ct.on {g:FuncId}{args:List Value}{As Ls:List Chunk}{Rs:Chunk}{P P':Value->List Chunk->Prop}(h:Ct g args As P)(s:Ls.flatten.Perm (As.flatten++Rs))(k:∀u Bs,P u Bs->∃Cs Ds,P' u Cs/\(Bs.flatten++Rs).Perm (Cs.flatten++Ds)):Ct g args Ls P':=fun w H=>by
 have H1:Own w (As.flatten++Rs):=Own.perm H s
 refine (h w H1.left).mono fun u w' ⟨Bs,hp,ht⟩ => ?_
 obtain ⟨Cs,Ds,h1,h2⟩:=k u Bs hp
 exact ⟨Cs,h1,Tr.drop (C:=Ds) (Tr.perm (Tr.frame ht Rs) s h2)⟩
abbrev nM (o k z x y:Int)(nt:Nat)(b:Value):Value:=.agg #[.int .i64 o,.int .i64 k,.int .i64 z,.int .i64 x,.int .i64 y,.int .u64 nt,b]
abbrev opO (o k z x y:Int)(nt:Nat)(b:Value):Obj:=av [.int .i64 o,.int .i64 k,.int .i64 z,.int .i64 x,.int .i64 y,.int .u64 nt,b] 32
section
variable (rg p s a d:Nat)(vQ:Value)(S M A:Chunk)(k z x y e:Int)(nt:Nat)(b:Value)(PS PM:Chunk->Prop)
theorem mN (hs:Ct 48 [ptr s,.int .i64 k,.int .i64 y] [S] fun u Bs=>u = .int .i64 e/\∃S',PS S'/\Bs=[S'])(hd:Ct 49 [ptr a,.int .i64 k,.int .i64 y] [M] fun u Bs=>u = .int .i64 e/\∃M',PM M'/\Bs=[M']) :
  Ct 20 [ptr rg,nM 1 k z x y nt b] [[(rg,l3 p vQ s a d)],S,M] fun u Bs=>u = .bool true/\∃S' M',PS S'/\PM M'/\Bs=[[(rg,l3 p vQ s a d)],S',M']:=by
 refine st Tryz.func20 fun w0 => ?_
 refine ga ?_;intro b3
 refine qC [[(rg,l3 p vQ s a d)],[(b3,opO 1 k z x y nt b)]] [0,4,8,12,16,20,24,28,36,40,44,48,52,56,60,64,33,71,74,78] ?_
 refine gc hs ?_
 rintro _ _ ⟨rfl,S',h1,rfl⟩
 refine gc hd ?_
 rintro _ _ ⟨rfl,M',h2,rfl⟩
 refine gz ?_
 exact fin ⟨by simp,S',M',h1,h2,rfl⟩ aa
theorem nB (hs:Ct 50 [ptr s,.int .i64 k,.int .i64 z] [S] fun u Bs=>u = .int .i64 e/\∃S',PS S'/\Bs=[S'])(hd:Ct 51 [ptr a,.int .i64 k,.int .i64 z] [M] fun u Bs=>u = .int .i64 e/\∃M',PM M'/\Bs=[M']) :
  Ct 20 [ptr rg,nM 2 k z x y nt b] [[(rg,l3 p vQ s a d)],S,M] fun u Bs=>u = .bool true/\∃S' M',PS S'/\PM M'/\Bs=[[(rg,l3 p vQ s a d)],S',M']:=by
 refine st Tryz.func20 fun w0 => ?_
 refine ga ?_;intro b3
 refine qC [[(rg,l3 p vQ s a d)],[(b3,opO 2 k z x y nt b)]] [0,4,8,12,16,20,24,28,36,40,44,48,52,56,60,64,33,71,74,78] ?_
 refine gc hs ?_
 rintro _ _ ⟨rfl,S',h1,rfl⟩
 refine gc hd ?_
 rintro _ _ ⟨rfl,M',h2,rfl⟩
 refine gz ?_
 exact fin ⟨by simp,S',M',h1,h2,rfl⟩ aa
theorem Ay (hs:Ct 52 [ptr s,.int .i64 k] [S] fun u Bs=>u = .int .i64 e/\∃S',PS S'/\Bs=[S'])(hd:Ct 53 [ptr a,.int .i64 k] [M] fun u Bs=>u = .int .i64 e/\∃M',PM M'/\Bs=[M']) :
  Ct 20 [ptr rg,nM 3 k z x y nt b] [[(rg,l3 p vQ s a d)],S,M] fun u Bs=>u = .bool true/\∃S' M',PS S'/\PM M'/\Bs=[[(rg,l3 p vQ s a d)],S',M']:=by
 refine st Tryz.func20 fun w0 => ?_
 refine ga ?_;intro b3
 refine qC [[(rg,l3 p vQ s a d)],[(b3,opO 3 k z x y nt b)]] [0,4,8,12,16,20,28,32,36,40,44,48,25,55,58,62] ?_
 refine gc hs ?_
 rintro _ _ ⟨rfl,S',h1,rfl⟩
 refine gc hd ?_
 rintro _ _ ⟨rfl,M',h2,rfl⟩
 refine gz ?_
 exact fin ⟨by simp,S',M',h1,h2,rfl⟩ aa
end
end Go.Proofs.YtcfioaeamfappaaGreatDoor
namespace Go.Sl
structure Rg where
 p:Nat
 vQ:Value
 s:Nat
 a:Nat
 d:Nat
structure Zq where
 o:Int
 k:Int
 z:Int
 x:Int
 y:Int
 nt:Nat
 b:Value
end Go.Sl
namespace Go.Proofs.YtcfioaeamfappaaGreatDoor
open Go.Sl
set_option maxRecDepth 10000
set_option maxHeartbeats 4000000
abbrev Zq.agg (o:Zq):Value:=nM o.o o.k o.z o.x o.y o.nt o.b
abbrev Rg.ch (rg:Nat)(r:Rg):Chunk:=[(rg,l3 r.p r.vQ r.s r.a r.d)]
section
variable (rg:Nat)(r:Rg)(X A:Chunk)(k z x y:Int)(nt:Nat)(b:Value)(Inv Mid:Rg->Chunk->Prop)
theorem G8 (hc:Ct 9 [ptr rg] [Rg.ch rg r,X] fun u Bs=>u = .bool true/\∃r' X',Inv r' X'/\Bs=[Rg.ch rg r',X']) :
  Ct 7 [ptr rg,nM 8 k z x y nt b] [Rg.ch rg r,X] fun u Bs=>u = .bool true/\∃r' X',Inv r' X'/\Bs=[Rg.ch rg r',X']:=by
 refine st Tryz.func7 fun w0 => ?_
 refine ga ?_;intro b3
 refine gc hc ?_
 rintro _ _ ⟨rfl,r',X',h,rfl⟩
 refine gz ?_
 exact fin ⟨rfl,r',X',h,rfl⟩ aa
theorem K8 (o:Int)(h8:o≠8)(hc:Ct 20 [ptr rg,nM o k z x y nt b] [Rg.ch rg r,X,A] fun u Bs=>u = .bool true/\∃r' X',Mid r' X'/\Bs=[Rg.ch rg r',X',A])
  (ha:∀r' X',Mid r' X'->Ct 21 [ptr rg,nM o k z x y nt b] [Rg.ch rg r',X'] fun u Bs=>u = .bool true/\∃r' X',Inv r' X'/\Bs=[Rg.ch rg r',X']) :
  Ct 7 [ptr rg,nM o k z x y nt b] [Rg.ch rg r,X,A] fun u Bs=>u = .bool true/\∃r' X',Inv r' X'/\Bs=[Rg.ch rg r',X',A]:=by
 refine st Tryz.func7 fun w0 => ?_
 refine ga ?_;intro b3
 refine gc hc ?_
 rintro _ _ ⟨rfl,r',X',h,rfl⟩
 refine gc (ha r' X' h) ?_
 rintro _ _ ⟨rfl,r2,X2,h2,rfl⟩
 refine gz ?_
 exact fin ⟨rfl,r2,X2,h2,rfl⟩ aa
end
end Go.Proofs.YtcfioaeamfappaaGreatDoor
namespace Go.Sl
structure PS where
 R:Rk
 x:Rm
 ks:List Nat
def l4 (pr:Bool)(ls:List (Option Lv))(n gt:Nat)(P:PS)(b:List UInt8)(P':PS)(pt:Pt):Prop :=
 (bp b=true/\P'=P/\pt=ah)\/(bp b=false/\∃k:Nat,k∉P.x.D/\(k+1:Int)*((aN pr ls.length 1024:Nat):Int)<=((bD pr ls.length n:Nat):Int)/\pt=Gm (k*aN pr ls.length 1024) gt b 2/\P'=⟨P.R.run (sS pr ls (k*aN pr ls.length 1024) b),P.x.take k,P.ks++[k]⟩)
inductive jT (pr:Bool)(ls:List (Option Lv))(n gt:Nat)(P:PS):List (List UInt8)->PS->List Pt->Prop
 | nil:jT pr ls n gt P [] P []
 | snoc {bs:List (List UInt8)} {P1 P2:PS} {ps:List Pt} {b:List UInt8} {pt:Pt}:jT pr ls n gt P bs P1 ps->l4 pr ls n gt P1 b P2 pt->jT pr ls n gt P (bs++[b]) P2 (ps++[pt])
structure jA (qs:List Nat)(pr:Bool)(ls:List (Option Lv))(n:Nat)(P:PS)(c:Nat):Prop where
 on:P.R.on
 lv:dI qs P.R n ls
 ws:P.R.ws.length+40*(c+3)<=900000000000
 rm:P.x.D.length+c<=bD pr ls.length n / aN pr ls.length 1024
 ks:P.ks.length+c<=100000
theorem rK:∀ {l m:List Nat},l.Nodup->(∀x∈l,x∈m)->l.length<=m.length
 | [],_,_,_=>Nat.zero_le _
 | x :: r,m,hn,h=>by
  rw [List.nodup_cons] at hn
  have hx:=h x (List.mem_cons_self ..)
  have:=rK (l:=r) (m:=m.erase x) hn.2 fun y hy=>(List.mem_erase_of_ne (by rintro rfl;exact hn.1 hy)).2 (h y (List.mem_cons_of_mem _ hy))
  rw [List.length_erase_of_mem hx] at this
  have h2:=List.length_pos_of_mem hx
  simp only [List.length_cons];omega
theorem G9 {D:List Nat}{z m:Nat}(h:D.length<z / m):∃k:Nat,k∉D/\(k+1:Int)*(m:Int)<=(z:Int):=by
 have:∃k,k<z / m/\k∉D:=by
  refine Classical.byContradiction fun hc => ?_
  have:=rK (l:=List.range (z / m)) (m:=D) List.nodup_range fun x hx=>Classical.byContradiction fun yi=>hc ⟨x,List.mem_range.1 hx,yi⟩
  rw [List.length_range] at this;omega
 obtain ⟨k,h1,h2⟩:=this
 refine ⟨k,h2, ?_⟩
 have h3:(k+1)*m<=z:=Nat.le_trans (Nat.mul_le_mul_right m h1) (Nat.div_mul_le_self z m)
 have h4:(((k+1)*m:Nat):Int)<=z:=by omega
 rwa [Int.natCast_mul] at h4
theorem P6 {at_ gt:Nat}{b:List UInt8}(ha:at_<=40959)(hb:1<=b.length/\b.length<=1024)(hg:1<=gt/\gt<=281474976710656):(Gm at_ gt b 2).dY/\(Gm at_ gt b 2).Ok/\fy (Gm at_ gt b 2)=0/\Gm at_ gt b 2≠ah:=by
 have hs:(iU 2 b).1=NH b:=by simp [iU]
 obtain ⟨s1,s2,s3,s4⟩:=SO b
 have hgd:(Gm at_ gt b 2).dY:=by
  refine ⟨Int.le_refl _, ?_, ?_, ?_, ?_, ?_,hg.1,hg.2,.inr rfl⟩ <;> simp only [Gm] <;> omega
 have eP:Gm at_ gt b 2≠ah:=fun h=>by
  have:=congrArg Pt.bytes h
  simp only [Gm,ah] at this;omega
 refine ⟨hgd, ?_,by unfold fy;rw [if_neg eP,if_pos hgd],eP⟩
 unfold Gm
 rw [hs]
 constructor <;> simp only <;> omega
section
variable {qs:List Nat}{pr:Bool}{ls:List (Option Lv)}{n gt:Nat}{P P':PS}{b:List UInt8}{pt:Pt}{c:Nat}
theorem l4.ok (h:l4 pr ls n gt P b P' pt)(hw:1<=ls.length/\ls.length<=5)(hp:pr=true->3<=ls.length)(hb:b.length<=1024)(hP:jA qs pr ls n P (c+1)):jA qs pr ls n P' c:=by
 obtain ⟨h1,h2,h3,h4,h5⟩:=hP
 rcases h with ⟨-,rfl, -⟩ | ⟨cV,k, -, -, -,rfl⟩
 ·exact ⟨h1,h2,by omega,by omega,by omega⟩
 ·have Ba:1<=b.length:=by
   cases b with
   | nil=>cases cV
   | cons _ _=>simp
  have hl:=Tw (pr:=pr) (ls:=ls) (at_:=k*aN pr ls.length 1024) (b:=b) ⟨Ba,hb⟩ hw.2 hp
  have h6:=Rk.iJ P.R (sS pr ls (k*aN pr ls.length 1024) b)
  refine ⟨h1.run _,h2.run _,by simp only;omega,by simp only [Rm.take,List.length_cons];omega,by simp only [List.length_append,List.length_cons,List.length_nil];omega⟩
end
end Go.Sl
namespace Go.Proofs.YtcfioaeamfappaaGreatDoor
open Go.Sl
set_option maxRecDepth 10000
set_option maxHeartbeats 4000000
section
variable (T:TypeId)(fr:Nat×Nat)(p:Nat)(qs:List Nat)(t pool:Nat)(tp:Tp)(pr:Bool)(n:Nat)(ls:List (Option Lv))(no:Nat)(V:Chunk)(hV:jd t pool tp pr n ls no V)(ok:dE tp pr n ls.length)(dx:n<=2048)(hall:∀x∈ls,x≠none)
variable (s al:Nat)(ra rd txg note:Nat)(g gt:Nat)(ib:1<=gt/\gt<=281474976710656)
include hV ok dx hall ib
theorem IZ (P:PS)(c:Nat)(hP:jA qs pr ls n P (c+1))(G C Al:Chunk)(hG:rG g s gt ((aN pr ls.length 1024:Nat):Int) P.ks G)(hC:br p qs P.R C)(hA:oN al ((bD pr ls.length n:Nat):Int) ((aN pr ls.length 1024:Nat):Int) P.x Al)(b:List UInt8)(L:Nat)(hL:b.length=L)(KK:L<=1024)(O:Chunk)(v:Value)(hO:Rd O 1 v L (ak b)) :
  Ct 217 [ptr g,v] [G,[(s,bS t (ptr al) ra rd txg note)],gK T fr,C,V,Al,O] fun u Bs=>∃P' pt,l4 pr ls n gt P b P' pt/\u = .tuple #[pt.agg,.int .i64 0] /\
   ∃G' C' jI,rG g s gt ((aN pr ls.length 1024:Nat):Int) P'.ks G'/\br p qs P'.R C'/\oN al ((bD pr ls.length n:Nat):Int) ((aN pr ls.length 1024:Nat):Int) P'.x jI/\Bs=[G',[(s,bS t (ptr al) ra rd txg note)],gK T fr,C',V,jI,O]:=by
 obtain ⟨h1,h2,h3,h4,h5⟩:=hP
 cases hb:bp b with
 | true =>
  refine (Ua g G [(s,bS t (ptr al) ra rd txg note)] (gK T fr) C V Al b L hL hb O v hO).post fun u Bs => ?_
  rintro ⟨rfl,rfl⟩
  exact ⟨P,ah,.inl ⟨hb,rfl,rfl⟩,rfl,G,C,Al,hG,hC,hA,rfl⟩
 | false =>
  have Ba:1<=L:=by
   subst hL
   cases b with
   | nil=>cases hb
   | cons _ _=>simp
  refine (Y8 T fr p qs t pool tp pr n ls no V hV ok dx P.R C hC h2 hall h1 s al ra rd txg note g gt ib P.ks oZ G hG P.x Al hA (G9 oZ) b L hL ⟨Ba,KK⟩ hb O v hO oZ).post fun u Bs => ?_
  rintro ⟨k,hk,jz,rfl,G',C',jI,xq,bA,dX,rfl⟩
  exact ⟨⟨P.R.run (sS pr ls (k*aN pr ls.length 1024) b),P.x.take k,P.ks++[k]⟩,_,.inr ⟨hb,k,hk,jz,rfl,rfl⟩,rfl,G',C',jI,xq,bA,dX,rfl⟩
end
end Go.Proofs.YtcfioaeamfappaaGreatDoor
namespace Go.Sl
theorem P7 (pr:Bool){w n:Nat}(hw:1<=w/\w<=5)(hn:324<=n/\n<=2048):bD pr w n<=10240:=(iA pr hw hn).2
section
variable {qs:List Nat}{pr:Bool}{ls:List (Option Lv)}{n gt:Nat}{P P':PS}{b:List UInt8}{pt:Pt}{c:Nat}
theorem l4.pok (h:l4 pr ls n gt P b P' pt)(hz:bD pr ls.length n<=10240)(hb:b.length<=1024)(hg:1<=gt/\gt<=281474976710656):fy pt=0/\pt.Ok:=by
 rcases h with ⟨-, -,rfl⟩ | ⟨cV,k, -,hk,rfl, -⟩
 ·exact ⟨by simp [fy],dw⟩
 ·have Ba:1<=b.length:=by
   cases b with
   | nil=>cases cV
   | cons _ _=>simp
  rw [Int.add_mul,Int.one_mul,<-Int.natCast_mul] at hk
  obtain ⟨-,h2,h3, -⟩:=P6 (at_:=k*aN pr ls.length 1024) (gt:=gt) (b:=b) oZ ⟨Ba,hb⟩ hg
  exact ⟨h3,h2⟩
end
def qd (pr:Bool)(ls:List (Option Lv))(n gt:Nat)(P P':PS)(l idx:List Pt)(root:Pt):Prop :=
 (l=[]/\P'=P/\idx=[]/\root=ah)\/(l≠[]/\∃level P1,jT pr ls n gt P (kD l) P1 level/\l4 pr ls n gt P1 (eg (fR level)) P' root/\idx=level++[root])
def xa (N:Nat):Nat:=if N=0 then 0 else cY N 16+1
theorem Zr (N:Nat):(cY N 16=0/\xa N=0)\/(1<=cY N 16/\xa N=cY N 16+1):=by
 unfold xa
 split
 ·subst N;exact .inl ⟨rfl,rfl⟩
 ·exact .inr ⟨by unfold cY;omega,rfl⟩
theorem P8 {M N:Nat}(h:M<=N):xa M<=xa N:=by
 unfold xa cY
 split <;> split <;> omega
theorem rL (l:List Pt):(kD l).length=cY l.length 16:=by rw [kD,List.length_map,dA]
theorem mO (b:List UInt8):(eg b).length<=b.length:=by unfold eg;split <;> simp
theorem Eh {l:List Pt}:∀b∈kD l,b.length<=1024:=fun b hb=>by
 obtain ⟨g,hg,rfl⟩:=List.mem_map.1 hb
 have h1:=mO (fR g)
 have h2:=jm g
 obtain ⟨i,hi,rfl⟩:=List.getElem_of_mem hg
 rw [lu] at *
 rw [List.length_take] at h2
 omega
theorem jT.len {pr:Bool}{ls:List (Option Lv)}{n gt:Nat}{P P':PS}{bs:List (List UInt8)}{ps:List Pt}(h:jT pr ls n gt P bs P' ps):ps.length=bs.length:=by
 induction h with
 | nil=>rfl
 | snoc _ _ ih=>simp [ih]
theorem jT.Uo {pr:Bool}{ls:List (Option Lv)}{n gt:Nat}{P P':PS}{bs:List (List UInt8)}{ps:List Pt}(h:jT pr ls n gt P bs P' ps)(hb:bs=[]):P'=P:=by
 cases h with
 | nil=>rfl
 | snoc _ _=>simp at hb
theorem K9 {l:List Pt}(h1:1<=l.length)(h2:l.length<=16):kD l=[eg (fR l)]:=by
 have hn:cY l.length 16=1:=og oZ oZ
 unfold kD jl
 rw [hn]
 simp [kC,List.take_of_length_le h2]
end Go.Sl
namespace Go.Proofs.YtcfioaeamfappaaGreatDoor
open Go.Sl
set_option maxRecDepth 10000
set_option maxHeartbeats 4000000
section
variable (T:TypeId)(fr:Nat×Nat)(p:Nat)(qs:List Nat)(t pool:Nat)(tp:Tp)(pr:Bool)(n:Nat)(ls:List (Option Lv))(no:Nat)(V:Chunk)(hV:jd t pool tp pr n ls no V)(ok:dE tp pr n ls.length)(dx:n<=2048)(hall:∀x∈ls,x≠none)
variable (s al:Nat)(ra rd txg note:Nat)(g gt:Nat)(ib:1<=gt/\gt<=281474976710656)
include hV ok dx hall ib
theorem Zs (P:PS)(c:Nat)(l:List Pt)(N:Nat)(hl:l.length=N)(hN:N<=64)(mj:∀x∈l,fy x=0/\x.Ok)(hP:jA qs pr ls n P (c+xa N))(G C Al:Chunk)(hG:rG g s gt ((aN pr ls.length 1024:Nat):Int) P.ks G)(hC:br p qs P.R C)(hA:oN al ((bD pr ls.length n:Nat):Int) ((aN pr ls.length 1024:Nat):Int) P.x Al)(O:Chunk)(ad:Option Addr)(cO:Nat)(hO:Rd O 9 (.slice ad N cO) N (aO l))(hc:N<=cO) :
  Ct 218 [ptr g,.slice ad N cO,.func (.func 217) #[ptr g] #[]] [G,[(s,bS t (ptr al) ra rd txg note)],gK T fr,C,V,Al,O] fun u Bs=>∃P' idx root adX cX DX,qd pr ls n gt P P' l idx root/\jA qs pr ls n P' c/\u = .tuple #[.slice adX idx.length cX,root.agg,.int .i64 0]/\az DX 85 9 (.slice adX idx.length cX) idx.length (aO idx) /\
   ∃G' C' jI,rG g s gt ((aN pr ls.length 1024:Nat):Int) P'.ks G'/\br p qs P'.R C'/\oN al ((bD pr ls.length n:Nat):Int) ((aN pr ls.length 1024:Nat):Int) P'.x jI/\Bs=[G',[(s,bS t (ptr al) ra rd txg note)],gK T fr,C',V,jI,O,DX]:=by
 have hz:=P7 pr ok.hw ⟨ok.hn.1,dx⟩
 have bL:=fun P c hP G C Al hG hC hA b L hL KK O v hO=>IZ T fr p qs t pool tp pr n ls no V hV ok dx hall s al ra rd txg note g gt ib P c hP G C Al hG hC hA b L hL KK O v hO
 have A0:cY N 16<=4:=by unfold cY;omega
 have Fa:=rL l
 rw [hl] at Fa
 have WA:=N1 O ad N cO l hl hO hc oZ mj
 refine st Tryz.func218 fun w0 => ?_
 refine ga ?_;intro b7
 refine gc WA ?_
 rintro _ _ ⟨iI,c1,vs,D0,V0,rfl,E7,S0,rfl⟩
 have uX:=E7.rd
 have hov:=Zr N
 obtain ⟨e,he⟩:∃e,e=xa N:=⟨_,rfl⟩
 obtain ⟨nb,abI⟩:∃nb,nb=cY N 16:=⟨_,rfl⟩
 rw [<-he] at hov hP
 rw [<-abI] at A0 Fa E7 uX hov ⊢
 refine gl [0,2,7,27,28] (fun ((i,v11,_):Nat×Value×List Pt×PS×Chunk×Chunk×Chunk×Chunk)=>[(29,.int .i64 i),(11,v11)]) (fun (_,_,_,_,G,C,Al,D)=>[G,C,Al,D]) (fun (i,v11,lv,P1,G,C,Al,D)=>i<=nb/\jT pr ls n gt P ((kD l).take i) P1 lv/\jA qs pr ls n P1 (c+(e - i))/\rG g s gt ((aN pr ls.length 1024:Nat):Int) P1.ks G/\br p qs P1.R C/\oN al ((bD pr ls.length n:Nat):Int) ((aN pr ls.length 1024:Nat):Int) P1.x Al/\(∃ad c,v11 = .slice ad i c)/\az D 85 9 v11 i (aO lv)/\∀x∈lv,fy x=0/\x.Ok) (fun (i,_)=>nb - i) (0,.slice none 0 0,[],P,G,C,Al,[]) ⟨by omega,.nil,hP,hG,hC,hA,⟨none,0,rfl⟩,az.nil _ _,fun _ h=>by cases h⟩ ?_
 clear hG hC hA hP WA
 rintro ⟨i,v11,lv,P1,G,C,Al,D⟩ ⟨hi,hpr,RO,hG,hC,hA,⟨aej,c11,rfl⟩,hD,vV⟩
 have aek:=hpr.len
 rw [List.length_take] at aek
 refine gi ?_ ?_ <;> intro bh
 ·have bo:i<(kD l).length:=by omega
  obtain ⟨v,Ym,xl⟩:=S0.rd bo
  have LG:=Eh _ (List.getElem_mem bo)
  obtain ⟨g1,o1,rfl⟩:=uX.addr oZ
  have xB:jA qs pr ls n P1 (c+(e - (i+1))+1):=by rw [show c+(e - (i+1))+1=c+(e - i) by omega];exact RO
  have sV:=bL P1 _ xB G C Al hG hC hA (kD l)[i] _ rfl LG V0 v xl
  obtain ⟨j2,cv,rfl⟩:=xl.slice
  refine gc sV ?_
  rintro _ _ ⟨P2,pt,lO,rfl,G',C',jI,xq,bA,dX,rfl⟩
  have I0:=lO.ok ok.hw ok.hp LG xB
  have abJ:=lO.pok hz LG ib
  refine ga ?_;intro b14
  refine gm ?_;intro b45
  refine gp ?_;intro ael c12 D12 aem
  refine gn ?_
  refine ⟨(i+1,_,lv++[pt],P2,G',C',jI,D12),⟨by omega,by rw [gV bo];exact .snoc hpr lO,I0,xq,bA,dX,⟨ael,c12,rfl⟩,by simpa [aO,Pt.lay] using aem,fun x hx => ?_⟩,by simp only;omega,aq,_,aa⟩
  rcases List.mem_append.1 hx with hx | hx
  ·exact vV x hx
  ·rw [List.mem_singleton.1 hx];exact abJ
 ·obtain rfl:i=nb:=by omega
  rw [List.take_of_length_le oZ] at hpr
  have Zt:lv.length=i:=by have:=hpr.len;omega
  have Zu:=N1 D aej i c11 lv Zt hD.rd (by have:=hD.dL;omega) oZ vV
  refine gc Zu ?_
  rintro _ _ ⟨ad2,c2,vs2,D2,V2,rfl,BR,hV2,rfl⟩
  by_cases h0:i=0
  ·subst h0
   have RD:l=[]:=List.eq_nil_of_length_eq_zero (by unfold cY at abI;omega)
   have aen:lv=[]:=List.eq_nil_of_length_eq_zero Zt
   subst RD aen
   have hPP:P1=P:=hpr.Uo rfl
   subst hPP
   refine gz ?_
   exact fin ⟨P1,[],ah,none,0,[],.inl ⟨rfl,rfl,rfl,rfl⟩,⟨RO.on,RO.lv,by have:=RO.ws;omega,by have:=RO.rm;omega,by have:=RO.ks;omega⟩,rfl,az.nil _ _,G,C,Al,hG,hC,hA,rfl⟩ aa
  ·have LV:cY i 16=1:=og oZ oZ
   rw [LV] at BR
   rw [LV]
   have fE:=K9 (l:=lv) oZ oZ
   rw [fE] at hV2
   obtain ⟨v,Ym,xl⟩:=hV2.rd (i:=0) (by simp)
   have LG:(eg (fR lv)).length<=1024:=by have:=mO (fR lv);rw [jm] at this;omega
   have aeo:=BR.rd
   obtain ⟨g2,o2,rfl⟩:=aeo.addr oZ
   have xB:jA qs pr ls n P1 (c+1):=by rw [show c+1=c+(e - i) by omega];exact RO
   have sV:=bL P1 _ xB G C Al hG hC hA (eg (fR lv)) _ rfl LG V2 v xl
   obtain ⟨j2,cv,rfl⟩:=xl.slice
   refine gc sV ?_
   rintro _ _ ⟨P2,pt,lO,rfl,G',C',jI,xq,bA,dX,rfl⟩
   have I0:=lO.ok ok.hw ok.hp LG xB
   refine ga ?_;intro b17
   refine qC [[(b17,av pt.lay 85)]] [0,4,16,9,13,20,27,30] ?_
   refine gm ?_;intro b76
   refine gp ?_;intro adX cX DX hDX
   have s7:l≠[]:=fun h=>by subst h;simp [kD,jl,cY,kC] at Fa;omega
   have hix:(lv++[pt]).length=i+1:=by simp [Zt]
   refine gz ?_
   exact fin ⟨P2,lv++[pt],pt,adX,cX,DX,.inr ⟨s7,lv,P1,hpr,lO,rfl⟩,I0,by rw [hix],by rw [hix];simpa [aO,Pt.lay] using hDX,G',C',jI,xq,bA,dX,rfl⟩ aa
end
end Go.Proofs.YtcfioaeamfappaaGreatDoor
