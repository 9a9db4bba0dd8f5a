/-
  Texts put together (17).
-/
import Derived.Test.YtcfioaeamfappaaGreatDoorZTopFull16
namespace Go.Sl
set_option maxRecDepth 10000
def jW (pm:List dv)(x:Pt):List UInt8:=match pm.find? fun e=>decide (e.x=x) with
 | some e=>e.b
 | none=>[]
def ff (pm:List dv)(x:Pt):List Pt:=match pm.find? fun e=>decide (e.x=x) with
 | some e=>e.g
 | none=>[]
section
variable {pr:Bool}{w n:Nat}{R:Rk}{pm nw:List dv}{e:dv}{x:Pt}
theorem QE (h:dT pr w n R pm)(he:e∈pm):pm.find? (fun f=>decide (f.x=e.x))=some e:=by
 cases hf:pm.find? fun f=>decide (f.x=e.x) with
 | none =>
  rw [List.find?_eq_none] at hf
  exact absurd (hf e he) (by simp)
 | some f =>
  have h1:=List.mem_of_find?_eq_some hf
  have h2:f.x=e.x:=by simpa using List.find?_some hf
  rw [h.one h1 he (by rw [h2])]
theorem wD (h:dT pr w n R pm)(he:e∈pm):jW pm e.x=e.b:=by unfold jW;rw [QE h he]
theorem wE (h:dT pr w n R pm)(he:e∈pm):ff pm e.x=e.g:=by unfold ff;rw [QE h he]
theorem UM (h:∃e∈pm,e.x=x):(pm++nw).find? (fun f=>decide (f.x=x))=pm.find? fun f=>decide (f.x=x):=by
 rw [List.find?_append]
 cases hf:pm.find? fun f=>decide (f.x=x) with
 | none =>
  rw [List.find?_eq_none] at hf
  obtain ⟨e,he,c⟩:=h
  exact absurd (hf e he) (by simpa using c)
 | some f=>rfl
theorem UN (h:∃e∈pm,e.x=x):jW (pm++nw) x=jW pm x:=by unfold jW;rw [UM h]
end
theorem df (rd:Pt->List UInt8)(o:Ob)(i:Nat):o.raw rd i=match aH o.fresh (i:Int) with
 | some b=>b
 | none=>if cB o.ay i=ah then [] else rd (cB o.ay i):=by
 unfold Ob.raw cB
 cases aH o.fresh (i:Int) with
 | some b=>rfl
 | none=>cases o.ay[i]? <;> simp
structure dV (pm:List dv)(o:Ob)(d:au):Prop where
 us:o.used=true
 size:o.size=d.b.length
 sz:o.size<=65536
 fp:∀e∈o.fresh,1<=e.2.length
 byte:∀j,o.byte (jW pm) j=(d.b[j]?).getD 0
 gC:∀i:Nat,i<64->(aH o.fresh (i:Int)).isSome=d.gC i
 born:∀i:Nat,i<64->d.gC i=false->(cB o.ay i).bj=d.born i
theorem Hl (T:Nat)(o:au)(k:Nat):∀n,(xD T o n).gC k=(if k<n then false else o.gC k)/\(xD T o n).born k=(if k<n/\o.gC k=true then (if sY o.b k then 0 else T) else o.born k)
 | 0=>by simp [xD]
 | n+1=>by
  obtain ⟨h1,h2⟩:=Hl T o k n
  obtain ⟨s1,s2,s3⟩:=dq T o n
  unfold xD RV
  have rest:∀x y:Nat,¬k=n->((if k<n then false else o.gC k)=(if k<n+1 then false else o.gC k))/\((if k<n/\o.gC k=true then x else y)=(if k<n+1/\o.gC k=true then x else y)):=fun x y e=>by
   by_cases c:k<n
   ·have c2:k<n+1:=by omega
    simp [c,c2]
   ·have c2:¬k<n+1:=by omega
    simp [c,c2]
  by_cases hc:(xD T o n).gC n=true
  ·rw [if_pos hc]
   by_cases e:k=n
   ·subst e
    rw [h1,if_neg oZ] at hc
    have c2:k<k+1:=by omega
    simp [upd,s2,hc]
   ·simp only [upd,if_neg e]
    rw [h1,h2]
    exact rest _ _ e
  ·rw [if_neg hc]
   have hc:(xD T o n).gC n=false:=by simpa using hc
   by_cases e:k=n
   ·subst e
    have h0:=hc
    rw [h1,if_neg oZ] at h0
    rw [hc,h2]
    simp [h0]
   ·rw [h1,h2]
    exact rest _ _ e
theorem qm {b:List UInt8}(h:∀y∈b,y=0)(j:Nat):(b[j]?).getD 0=0:=by
 cases hb:b[j]? with
 | none=>rfl
 | some y=>exact h y (List.mem_of_getElem? hb)
theorem Eu {b:List UInt8}{N:Nat}(hN:b.length<=N)(h:∀j,j<N->(b[j]?).getD 0=0):∀y∈b,y=0:=fun y hy=>by
 obtain ⟨i,hi,rfl⟩:=List.getElem_of_mem hy
 have:=h i oZ
 rw [List.getElem?_eq_getElem hi] at this
 exact this
theorem wF (rd:Pt->List UInt8)(o:Ob)(i j:Nat)(hj:j<1024):o.byte rd (i*1024+j)=((o.raw rd i)[j]?).getD 0:=by
 unfold Ob.byte
 rw [show (i*1024+j) / 1024=i by omega,show (i*1024+j) % 1024=j by omega]
theorem dV.blank {pm:List dv}{o:Ob}{d:au}(h:dV pm o d){i:Nat}{b:List UInt8}(hb:aH o.fresh (i:Int)=some b)(hl:b.length<=1024):bp b=sY d.b i:=by
 have hr:o.raw (jW pm) i=b:=by rw [df,hb]
 have hj:∀j,j<1024->(b[j]?).getD 0=(((d.b.drop (1024*i)).take 1024)[j]?).getD 0:=fun j hj=>by
  rw [<-hr,<-wF _ _ _ _ hj,h.byte,List.getElem?_take,if_pos hj,List.getElem?_drop,Nat.mul_comm 1024 i]
 rw [sY,Bool.eq_iff_iff,fu,fu]
 constructor
 ·intro hz
  exact Eu (N:=1024) (by rw [List.length_take];omega) fun j zb=>by rw [<-hj j zb];exact qm hz j
 ·intro hz
  exact Eu hl fun j zb=>by rw [hj j zb];exact qm hz j
theorem dV.cm {pr:Bool}{w n N T:Nat}{R:Rk}{pm nw:List dv}{o o':Ob}{d:au}(h:dV pm o d)(hi:de pm N o)(hc:sX pm nw N o o')(fY:dT pr w n R (pm++nw))(hT:∀e∈nw,e.x.bj=T):dV (pm++nw) o' (lJ T d):=by
 obtain ⟨s1,s2,s3⟩:=dq T d 64
 have oQ:o'.fresh=[]:=(hc.RU.cl hc.clean).1
 have ZW:∀i:Nat,o'.raw (jW (pm++nw)) i=if cB o'.ay i=ah then [] else jW (pm++nw) (cB o'.ay i):=fun i=>by rw [df,oQ];rfl
 refine ⟨by rw [hc.used];exact h.us,by rw [hc.size,h.size];exact congrArg List.length s2.symm,by rw [hc.size];exact h.sz,(by rw [oQ];intro e he;cases he),fun j => ?_,fun i wb => ?_,fun i wb _ => ?_⟩
 ·rw [show (lJ T d).b=d.b from s2,<-h.byte j]
  have e:j=j / 1024*1024+j % 1024:=by omega
  have hm:=Nat.mod_lt j (show 0<1024 by omega)
  rw [e,wF _ _ _ _ hm,wF _ _ _ _ hm,ZW,df]
  cases hf:aH o.fresh ((j / 1024:Nat):Int) with
  | none =>
   simp only
   rw [hc.cZ _ hf]
   split
   ·rfl
   ·rename_i eP
    have:∃e∈pm,e.x=cB o.ay (j / 1024):=by
     rcases lI (l:=o.ay) (i:=j / 1024) with c | c
     ·exact absurd c eP
     ·exact (hi.ptr _ c).resolve_left eP
    rw [UN this]
  | some b =>
   simp only
   rcases hc.put _ b hf with ⟨c1,c2⟩ | ⟨c1, -,f,hf',c3,c4⟩
   ·rw [if_pos c1,qm (fu.1 c2)];rfl
   ·rw [if_neg c1,<-c3,wD fY (List.mem_append_right _ hf'),c4]
 ·rw [oQ,show (lJ T d).gC i=false by rw [lJ,(Hl T d i 64).1,if_pos wb]];rfl
 ·rw [lJ,(Hl T d i 64).2]
  have ht:=h.gC i wb
  cases hf:aH o.fresh (i:Int) with
  | none =>
   rw [hf] at ht
   have ht:d.gC i=false:=by rw [<-ht];rfl
   rw [if_neg (by rw [ht];simp),hc.cZ i hf]
   exact h.born i wb ht
  | some b =>
   rw [hf] at ht
   have ht:d.gC i=true:=by rw [<-ht];rfl
   have cV:=h.blank hf (hi.fk _ (aI hf)).2.2
   rw [if_pos ⟨wb,ht⟩]
   rcases hc.put i b hf with ⟨c1,c2⟩ | ⟨c1,c2,f,hf',c3, -⟩
   ·rw [<-cV,c2,if_pos rfl,c1];rfl
   ·rw [<-cV,c2,if_neg (by simp),<-c3];exact hT f hf'
structure bH (pm:List dv)(all:List (Int×Ob))(l:List au):Prop where
 keys:∀k:Int,(aH all k=none/\ey l k=none)\/∃o d,aH all k=some o/\ey l k=some d/\de pm (cY o.size 1024) o/\dV pm o d
 kn:(all.map (·.1)).Nodup
 ord:l.Pairwise fun a b=>a.no<b.no
 no:∀d∈l,1<=d.no/\d.no<=112
theorem rO {l:List au}(h:l.Pairwise fun a b=>a.no<b.no){d:au}(hd:d∈l):ey l (d.no:Int)=some d:=by
 induction l with
 | nil=>cases hd
 | cons x r ih =>
  rw [List.pairwise_cons] at h
  unfold ey at *
  rcases List.mem_cons.1 hd with rfl | hd
  ·rw [List.find?_cons_of_pos (by simp)]
  ·have:=h.1 d hd
   rw [List.find?_cons_of_neg (by simp;omega)]
   exact ih h.2 hd
section
variable {pm:List dv}{all:List (Int×Ob)}{l:List au}
theorem bH.perm (h:bH pm all l):(all.map (·.1)).Perm (l.map fun d=>(d.no:Int)):=by
 have dx:(l.map fun d=>(d.no:Int)).Nodup:=List.pairwise_map.2 (h.ord.imp fun h e=>by omega)
 refine (List.perm_ext_iff_of_nodup h.kn dx).2 fun k => ?_
 constructor
 ·intro hk
  obtain ⟨e,he,rfl⟩:=List.mem_map.1 hk
  have h1:=lG h.kn he
  rcases h.keys e.1 with ⟨c, -⟩ | ⟨o,d, -,c2, -⟩
  ·rw [h1] at c;cases c
  ·obtain ⟨c3,c4⟩:=fg c2
   exact List.mem_map.2 ⟨d,c3,c4⟩
 ·intro hk
  obtain ⟨d,hd,rfl⟩:=List.mem_map.1 hk
  have h1:=rO h.ord hd
  rcases h.keys (d.no:Int) with ⟨-,c⟩ | ⟨o,d',c1, -⟩
  ·rw [h1] at c;cases c
  ·exact List.mem_map.2 ⟨_,aI c1,rfl⟩
theorem bH.dl (h:bH pm all l):mJ l:=by
 refine ⟨?_,fun d hd => ?_,fun d hd=>(h.no d hd).2⟩
 ·have dx:(l.map fun d=>d.no).Nodup:=List.pairwise_map.2 (h.ord.imp fun h e=>by omega)
  have h1:(l.map fun d=>d.no).length<=((List.range 112).map (· + 1)).length:=fv dx fun k hk=>by
   obtain ⟨d,hd,rfl⟩:=List.mem_map.1 hk
   have:=h.no d hd
   exact List.mem_map.2 ⟨d.no - 1,by simp;omega,by omega⟩
  simpa using h1
 ·rcases h.keys (d.no:Int) with ⟨-,c⟩ | ⟨o,d', -,c2, -,c3⟩
  ·rw [rO h.ord hd] at c;cases c
  ·rw [rO h.ord hd] at c2;cases c2
   rw [<-c3.size];exact c3.sz
theorem bH.cost (h:bH pm all l)(k:Int):fW all k=iB l k:=by
 unfold fW iB
 rcases h.keys k with ⟨c1,c2⟩ | ⟨o,d,c1,c2, -,c3⟩
 ·rw [c1,c2]
 ·rw [c1,c2];simp only;rw [c3.size]
theorem bH.used (h:bH pm all l):eH all=aS l:=by
 rw [yr h.kn,(h.perm.map _).sum_nat,List.map_map]
 unfold aS
 congr 1
 refine List.map_congr_left fun d hd => ?_
 simp only [Function.comp]
 rw [h.cost,iB,rO h.ord hd]
theorem bH.fits (h:bH pm all l)(k:Int)(size room:Nat):nX all k size room=cy l k size room:=by
 unfold nX cy
 rw [h.used,h.cost]
theorem AI (T:Nat)(k:Int):∀l:List au,ey (l.map (lJ T)) k=(ey l k).map (lJ T)
 | []=>rfl
 | x :: r=>by
  have ih:=AI T k r
  have hs:=(dq T x 64).1
  unfold ey at *
  rw [List.map_cons]
  by_cases c:(x.no:Int)=k
  ·rw [List.find?_cons_of_pos (by rw [lJ,hs];simpa using c),List.find?_cons_of_pos (by simpa using c)];rfl
  ·rw [List.find?_cons_of_neg (by rw [lJ,hs];simpa using c),List.find?_cons_of_neg (by simpa using c)];exact ih
theorem bH.cm {pr:Bool}{w n T:Nat}{R:Rk}{nw:List dv}{os:List (Int×Ob)}{ks:List Int}(h:bH pm all l)(hk:ks.Perm (all.map (·.1)))(Pv:os.map (·.1)=ks)(hc:∀k∈ks,∃o o',aH all k=some o/\aH os k=some o'/\sX pm nw (cY o.size 1024) o o')(fY:dT pr w n R (pm++nw))(hT:∀e∈nw,e.x.bj=T):bH (pm++nw) os (l.map (lJ T)):=by
 refine ⟨fun k => ?_,by rw [Pv];exact hk.nodup_iff.2 h.kn, ?_,fun d hd => ?_⟩
 ·rcases h.keys k with ⟨c1,c2⟩ | ⟨o,d,c1,c2,c3,c4⟩
  ·left
   refine ⟨jU ?_,by rw [AI,c2];rfl⟩
   rw [Pv,hk.mem_iff];exact pV c1
  ·right
   obtain ⟨p,p',g1,g2,g3⟩:=hc k (hk.mem_iff.2 (List.mem_map.2 ⟨_,aI c1,rfl⟩))
   rw [c1] at g1;cases g1
   refine ⟨p',lJ T d,g2,by rw [AI,c2];rfl,by rw [g3.size];exact g3.RU,c4.cm c3 g3 fY hT⟩
 ·rw [List.pairwise_map]
  exact h.ord.imp fun {a b} c=>by rw [show (lJ T a).no=a.no from (dq T a 64).1,show (lJ T b).no=b.no from (dq T b 64).1];exact c
 ·obtain ⟨x,hx,rfl⟩:=List.mem_map.1 hd
  rw [show (lJ T x).no=x.no from (dq T x 64).1];exact h.no x hx
end
structure QF (z m q txg:Nat)(x:Rm)(pm:List dv):Prop where
 ok:x.Ok (z:Int) (m:Int)
 nd:x.D.Nodup
 hd:∀e∈pm,aM m e.x∈x.D/\aM m e.x∉x.W
 ds:∀k∈x.D,k∈x.W\/∃e∈pm,aM m e.x=k
 gr:∀g∈x.fB,(g.1=(txg:Int)\/g.1+1=(txg:Int))/\g.2.length<=q
 gn:(x.fB.map (·.1)).Nodup
theorem WM {α:Type}{q:Nat}:∀ {L:List (Int×List α)},(∀g∈L,g.2.length<=q)->(L.flatMap (·.2)).length<=L.length*q
 | [],_=>by simp
 | g :: r,h=>by
  have h1:=h g (List.mem_cons_self ..)
  have h2:=WM (L:=r) fun x hx=>h x (List.mem_cons_of_mem _ hx)
  rw [List.flatMap_cons,List.length_append,List.length_cons,Nat.succ_mul];omega
theorem QF.wl {z m q txg:Nat}{x:Rm}{pm:List dv}(h:QF z m q txg x pm):x.W.length<=2*q:=by
 have h1:=WM (q:=q) (L:=x.fB) fun g hg=>(h.gr g hg).2
 have h2:(x.fB.map (·.1)).length<=[(txg:Int),(txg:Int) - 1].length:=fv h.gn fun k hk=>by
  obtain ⟨g,hg,rfl⟩:=List.mem_map.1 hk
  have:=(h.gr g hg).1
  simp only [List.mem_cons,List.not_mem_nil,or_false];omega
 simp only [List.length_map,List.length_cons,List.length_nil] at h2
 have h3:=Nat.mul_le_mul_right q h2
 unfold Rm.W
 omega
theorem QF.dl {z m q txg:Nat}{x:Rm}{pm:List dv}(h:QF z m q txg x pm):x.D.length<=pm.length+2*q:=by
 have h1:=rK (l:=x.D) (m:=x.W++pm.map fun e=>aM m e.x) h.nd fun k hk=>by
  rcases h.ds k hk with c | ⟨e,he,c⟩
  ·exact List.mem_append_left _ c
  ·exact List.mem_append_right _ (List.mem_map.2 ⟨e,he,c⟩)
 have h2:=h.wl
 rw [List.length_append,List.length_map] at h1
 omega
theorem Ew {T:Int}{k:Nat}:∀ {L:List (Int×List Nat)},T∉L.map (·.1)->lY L T k=L++[(T,[k])]
 | [],_=>rfl
 | (j,l) :: r,h=>by
  rw [List.map_cons,List.mem_cons,not_or] at h
  rw [lY,if_neg (fun e=>h.1 e.symm),Ew h.2];rfl
theorem Ex {T:Int}{k:Nat}{q:List Nat}:∀ {L:List (Int×List Nat)},T∉L.map (·.1)->lY (L++[(T,q)]) T k=L++[(T,q++[k])]
 | [],_=>by simp [lY]
 | (j,l) :: r,h=>by
  rw [List.map_cons,List.mem_cons,not_or] at h
  rw [List.cons_append,lY,if_neg (fun e=>h.1 e.symm),Ex h.2];rfl
theorem Hm {T m:Nat}{a:Rm}(hT:(T:Int)∉a.fB.map (·.1)):∀fs:List Pt,(bq T a m fs).fB=a.fB++(if fs=[] then [] else [((T:Int),fs.map (aM m))]):=by
 intro fs
 have key:∀(r fs:List Pt),fs≠[]->∀b:Rm,b.fB=a.fB++[((T:Int),fs.map (aM m))]->(bq T b m r).fB=a.fB++[((T:Int),(fs++r).map (aM m))]:=by
  intro r
  induction r with
  | nil=>intro fs _ b hb;rw [List.append_nil];exact hb
  | cons x r ih =>
   intro fs hf b hb
   have:(bq T b m (x :: r))=bq T (b.free T (aM m x)) m r:=rfl
   rw [this,ih (fs++[x]) (by simp) _ (by
    show lY b.fB T (aM m x)=_
    rw [hb,Ex hT,List.map_append];rfl),List.append_assoc];rfl
 cases fs with
 | nil=>simp [bq]
 | cons x r =>
  have:(bq T a m (x :: r))=bq T (a.free T (aM m x)) m r:=rfl
  rw [this,key r [x] (by simp) _ (by
   show lY a.fB T (aM m x)=_
   rw [Ew hT];rfl)]
  simp
section
variable {pr:Bool}{n q txg:Nat}{ls:List (Option Lv)}{P P2:PS}{pm nw:List dv}{od ds:List (Int×List Pt)}{fs:List Pt}
theorem QF.cm (h:QF (bD pr ls.length n) (aN pr ls.length 1024) q txg P.x pm)(hg:Grow pr n (txg+1) ls P pm P2 nw)(xd:P2.x.fB=P.x.fB)
  (UF:∀x,x∈bc od↔∃e∈pm,e.x=x) (ek:∀e∈nw,e.x∈bc ds) (zl:fs.Nodup) (zQ:∀x,x∈fs↔x∈bc od/\x∉bc ds) (zP:j9 (bD pr ls.length n:Nat) (aN pr ls.length 1024:Nat) (aN pr ls.length 1024) (txg+1) P2.x fs) (hq:pm.length<=q) (ht:1<=txg) :
  QF (bD pr ls.length n) (aN pr ls.length 1024) q (txg+1) ((bq (txg+1) P2.x (aN pr ls.length 1024) fs).sync ((txg+1:Nat):Int)) ((pm++nw).filter fun e=>decide (e.x∈bc ds)):=by
 obtain ⟨m,hm⟩:∃m,m=aN pr ls.length 1024:=⟨_,rfl⟩
 have ZX:=hg.w7
 have tt:=ZX.po
 have oQ:=hg.fr
 have A8:=hg.ds
 have fE:=fun e he f hf=>tt.one (e:=e) (f:=f) he hf
 rw [<-hm] at h zP oQ A8 fE ⊢
 have N4:=ZX.dd
 rw [<-hm] at N4
 have hTn:((txg+1:Nat):Int)∉P2.x.fB.map (·.1):=fun hc=>by
  obtain ⟨g,QG,e⟩:=List.mem_map.1 hc
  rw [xd] at QG
  have:=(h.gr g QG).1
  omega
 have IU:=Hm (m:=m) hTn fs
 obtain ⟨F,hF⟩:∃F,F=bq (txg+1) P2.x m fs:=⟨_,rfl⟩
 rw [<-hF] at IU ⊢
 have hFd:F.D=P2.x.D:=by rw [hF];exact zP.d
 have UO:F.Ok (bD pr ls.length n:Nat) (m:Nat):=by rw [hF];exact zP.ok
 rw [xd] at IU
 have ab0:∀x∈fs,∃e∈pm,e.x=x:=fun x hx=>(UF x).1 ((zQ x).1 hx).1
 have jo:fs.length<=q:=by
  have:=fv (l:=fs) (m:=pm.map (·.x)) zl fun x hx=>by
   obtain ⟨e,he,c⟩:=ab0 x hx
   exact List.mem_map.2 ⟨e,he,c⟩
  rw [List.length_map] at this;omega
 have hFg:∀g∈F.fB,g∈P.x.fB\/(fs≠[]/\g=(((txg+1:Nat):Int),fs.map (aM m))):=fun g QG=>by
  rw [IU,List.mem_append] at QG
  rcases QG with c | c
  ·exact .inl c
  ·split at c
   ·cases c
   ·exact .inr ⟨by assumption,List.mem_singleton.1 c⟩
 have hFW:∀k,k∈F.W↔k∈P.x.W\/∃x∈fs,aM m x=k:=fun k=>by
  unfold Rm.W
  rw [IU,List.flatMap_append,List.mem_append]
  refine or_congr Iff.rfl ?_
  split
  ·rename_i c;subst c;simp
  ·simp
 have hWW:∀k,k∈(F.sync ((txg+1:Nat):Int)).W->k∈F.W:=fun k hk=>by
  obtain ⟨g,QG,c⟩:=List.mem_flatMap.1 hk
  exact List.mem_flatMap.2 ⟨g,(List.mem_filter.1 QG).1,c⟩
 have aeM:∀k,k∈(F.fB.filter fun g=>jF ((txg+1:Nat):Int) g.1).flatMap (·.2)->k∈P.x.W:=fun k hk=>by
  obtain ⟨g,QG,c⟩:=List.mem_flatMap.1 hk
  obtain ⟨c1,c2⟩:=List.mem_filter.1 QG
  rcases hFg g c1 with c3 | ⟨-,rfl⟩
  ·exact List.mem_flatMap.2 ⟨g,c3,c⟩
  ·simp only [jF,decide_eq_true_eq] at c2;omega
 have hDs:∀k,k∈(F.sync ((txg+1:Nat):Int)).D↔k∈P2.x.D/\k∉(F.fB.filter fun g=>jF ((txg+1:Nat):Int) g.1).flatMap (·.2):=fun k=>by
  show k∈F.D.filter _↔_
  rw [List.mem_filter,hFd]
  simp
 have WN:∀e∈(pm++nw).filter fun e=>decide (e.x∈bc ds),aM m e.x∉F.W:=fun e he hc=>by
  obtain ⟨c1,c2⟩:=List.mem_filter.1 he
  have c2:e.x∈bc ds:=by simpa using c2
  rcases (hFW _).1 hc with c | ⟨x,hx,c⟩
  ·rcases List.mem_append.1 c1 with c3 | c3
   ·exact (h.hd e c3).2 c
   ·exact oQ e c3 (h.ok.wd _ c)
  ·obtain ⟨f,hf,rfl⟩:=ab0 x hx
   have:=fE f (List.mem_append_left _ hf) e c1 c
   subst this
   exact ((zQ _).1 hx).2 c2
 refine ⟨⟨fun k hk => ?_, ?_,fun k hk => ?_⟩, ?_,fun e he=>⟨?_,fun hc=>WN e he (hWW _ hc)⟩,fun k hk => ?_,fun g QG => ?_, ?_⟩
 ·exact UO.dl k (by rw [hFd];exact ((hDs k).1 hk).1)
 ·have hs:((F.fB.filter fun g => !jF ((txg+1:Nat):Int) g.1).flatMap (·.2)).Sublist (F.fB.flatMap (·.2)):=by
   have:∀L:List (Int×List Nat),((L.filter fun g => !jF ((txg+1:Nat):Int) g.1).flatMap (·.2)).Sublist (L.flatMap (·.2)):=by
    intro L
    induction L with
    | nil=>exact List.Sublist.refl _
    | cons g r ih =>
     rw [List.filter_cons]
     split
     ·rw [List.flatMap_cons,List.flatMap_cons];exact List.Sublist.append (List.Sublist.refl _) ih
     ·rw [List.flatMap_cons];exact ih.trans (List.sublist_append_right _ _)
   exact this _
  exact hs.nodup UO.wn
 ·refine (hDs k).2 ⟨by rw [<-hFd];exact UO.wd k (hWW k hk),fun hc => ?_⟩
  obtain ⟨g1,a1,a2⟩:=List.mem_flatMap.1 hk
  obtain ⟨g2,b1,b2⟩:=List.mem_flatMap.1 hc
  obtain ⟨a3,a4⟩:=List.mem_filter.1 a1
  obtain ⟨b3,b4⟩:=List.mem_filter.1 b1
  have eP:g1≠g2:=fun e=>by subst e;rw [b4] at a4;simp at a4
  have hw:=UO.wn
  unfold Rm.W at hw
  obtain ⟨i,hi,rfl⟩:=List.getElem_of_mem a3
  obtain ⟨j,hj,rfl⟩:=List.getElem_of_mem b3
  have ab1:∀(L:List (Int×List Nat)),(L.flatMap (·.2)).Nodup->∀i j (hi:i<L.length) (hj:j<L.length),i<j->k∈L[i].2->k∈L[j].2->False:=by
   intro L
   induction L with
   | nil=>intro _ i j hi;exact absurd hi (by simp)
   | cons g r ih =>
    intro hL i j hi hj E0 h1 h2
    rw [List.flatMap_cons,List.nodup_append] at hL
    cases j with
    | zero=>omega
    | succ j =>
     cases i with
     | zero=>exact hL.2.2 k h1 k (List.mem_flatMap.2 ⟨r[j]'(by simpa using hj),List.getElem_mem _,h2⟩) rfl
     | succ i=>exact ih hL.2.1 i j (by simpa using hi) (by simpa using hj) oZ h1 h2
  rcases Nat.lt_trichotomy i j with c | c | c
  ·exact ab1 _ hw i j hi hj c a2 b2
  ·subst c;exact eP rfl
  ·exact ab1 _ hw j i hj hi c b2 a2
 ·show (F.D.filter _).Nodup
  exact List.filter_sublist.nodup (by rw [hFd];exact ZX.nd)
 ·obtain ⟨c1, -⟩:=List.mem_filter.1 he
  exact (hDs _).2 ⟨N4 e c1,fun hc=>WN e he ((hFW _).2 (.inl (aeM _ hc)))⟩
 ·obtain ⟨c1,c2⟩:=(hDs k).1 hk
  have cu:∀g,g∈F.fB->k∈g.2->k∈(F.sync ((txg+1:Nat):Int)).W:=fun g c3 c4=>by
   refine List.mem_flatMap.2 ⟨g,List.mem_filter.2 ⟨c3, ?_⟩,c4⟩
   cases hr:jF ((txg+1:Nat):Int) g.1 with
   | false=>rfl
   | true=>exact absurd (List.mem_flatMap.2 ⟨g,List.mem_filter.2 ⟨c3,hr⟩,c4⟩) c2
  have aeN:∀e∈pm,aM m e.x=k->k∈(F.sync ((txg+1:Nat):Int)).W\/∃e∈(pm++nw).filter (fun e=>decide (e.x∈bc ds)),aM m e.x=k:=fun e he c=>by
   by_cases hd:e.x∈bc ds
   ·exact .inr ⟨e,List.mem_filter.2 ⟨List.mem_append_left _ he,by simpa using hd⟩,c⟩
   ·left
    have hfx:e.x∈fs:=(zQ _).2 ⟨(UF _).2 ⟨e,he,rfl⟩,hd⟩
    refine cu (((txg+1:Nat):Int),fs.map (aM m)) ?_ (List.mem_map.2 ⟨e.x,hfx,c⟩)
    rw [IU,if_neg (fun e=>by rw [e] at hfx;cases hfx)]
    simp
  rcases A8 k c1 with c | ⟨e,he,c⟩
  ·rcases h.ds k c with d | ⟨e,he,d⟩
   ·left
    obtain ⟨g,c3,c4⟩:=List.mem_flatMap.1 d
    exact cu g (by rw [IU];exact List.mem_append_left _ c3) c4
   ·exact aeN e he d
  ·exact .inr ⟨e,List.mem_filter.2 ⟨List.mem_append_right _ he,by simpa using ek e he⟩,c⟩
 ·obtain ⟨c1,c2⟩:=List.mem_filter.1 QG
  rcases hFg g c1 with c3 | ⟨-,rfl⟩
  ·have:=h.gr g c3
   refine ⟨?_,this.2⟩
   have h2:jF ((txg+1:Nat):Int) g.1=false:=by simpa using c2
   simp only [jF,decide_eq_false_iff_not] at h2
   omega
  ·exact ⟨.inl rfl,by rw [List.length_map];exact jo⟩
 ·have hk:(F.fB.map (·.1)).Nodup:=by
   rw [IU,List.map_append,List.nodup_append]
   refine ⟨h.gn,by split <;> simp,fun a ha b hb e => ?_⟩
   split at hb
   ·cases hb
   ·simp only [List.map_cons,List.map_nil,List.mem_singleton] at hb
    rw [e,hb] at ha
    rw [xd] at hTn
    exact hTn ha
  exact (List.filter_sublist.map _).nodup hk
end
structure wG (pm:List dv)(cs:List (Int×Ob))(mo:Ob)(l:List au):Prop where
 rel:bH pm cs l
 cl:∀k o,aH cs k=some o->o.clean=true
 mc:mo.clean=true
 mi:de pm 8 mo
 JE:∀j,mo.byte (jW pm) j=((fH (slotsOf cs))[j]?).getD 0
theorem fZ {l:List Pt}{x:Pt}:x∈bI l↔x∈l/\x≠ah:=by
 unfold bI
 rw [List.mem_filter];simp
theorem QH {l:List Pt}{N:Nat}(h:∀i,N<=i->cB l i=ah):(bI l).length<=N:=by
 have h2:bI (l.drop N)=[]:=by
  unfold bI
  rw [List.filter_eq_nil_iff]
  intro x hx
  obtain ⟨i,hi,rfl⟩:=List.getElem_of_mem hx
  have:=h (N+i) oZ
  unfold cB at this
  rw [List.getElem_drop]
  rw [List.length_drop] at hi
  rw [List.getElem?_eq_getElem oZ] at this
  simpa using this
 have e:bI l=bI (l.take N)++bI (l.drop N):=by
  unfold bI
  rw [<-List.filter_append,List.take_append_drop]
 rw [e,h2,List.append_nil]
 exact Nat.le_trans (kV _) (by rw [List.length_take];omega)
theorem qp {pm:List dv}{N:Nat}{o:Ob}(h:de pm N o)(hc:o.clean=true):(ej o).length<=N+xa (Hj N):=by
 have h1:=QH h.pz
 have h2:=kV o.index
 have h3:=(h.cl hc).2.2.1
 have e:ej o=bI o.ay++bI o.index:=by unfold ej bI;rw [List.filter_append]
 rw [e,List.length_append];omega
theorem Ey {pm:List dv}{N:Nat}{o:Ob}(h:de pm N o)(hc:o.clean=true):∀x∈ej o,∃e∈pm,e.x=x:=fun x hx=>by
 obtain ⟨h1,h2⟩:=fZ.1 hx
 rcases List.mem_append.1 h1 with c | c
 ·exact (h.ptr x c).resolve_left h2
 ·exact ((h.cl hc).2.2.2 x c).resolve_left h2
theorem WQ (z:Nat):RS z=Hj (cY z 1024):=rfl
theorem Hn {z:Nat}(hz:z<=65536):cY z 1024+xa (RS z)<=cost z:=by
 unfold xa RS cY cost
 by_cases h:z=0
 ·subst h;simp
 ·rw [if_neg h,if_neg oZ];omega
theorem ZY {pm:List dv}{o:Ob}(h:de pm (cY o.size 1024) o)(hz:o.size<=65536):El (RS o.size) o<=cost o.size:=by
 have h1:=Hn hz
 have h2:=h.jE.1
 unfold El
 split
 ·exact Nat.zero_le _
 ·omega
section
variable {pr:Bool}{w n N:Nat}{R:Rk}{pm jV:List dv}
theorem UP (fY:dT pr w n R pm)(wH:dT pr w n R jV)(hs:∀e∈jV,e∈pm){x:Pt}(h:∃e∈jV,e.x=x):jW jV x=jW pm x:=by
 obtain ⟨e,he,rfl⟩:=h
 rw [wD wH he,wD fY (hs e he)]
theorem UQ (fY:dT pr w n R pm){e:dv}(he:e∈pm)(h:∃f∈jV,f.x=e.x)(hs:∀e∈jV,e∈pm):e∈jV:=by
 obtain ⟨f,hf,c⟩:=h
 have:=fY.one (hs f hf) he (by rw [c])
 rw [<-this];exact hf
theorem de.sub {o:Ob}(h:de pm N o)(fY:dT pr w n R pm)(hs:∀e∈jV,e∈pm)(hp:∀x∈o.ay,x≠ah->∃e∈jV,e.x=x)(hi:o.clean=true->∀x∈o.index,x≠ah->∃e∈jV,e.x=x):de jV N o:=by
 have hz:∀(x:Pt) {p:Prop},(x≠ah->p)->x=ah\/p:=fun x p h=>by
  by_cases c:x=ah
  ·exact .inl c
  ·exact .inr (h c)
 refine ⟨fun x hx=>hz x (hp x hx),h.fk,h.fn,h.pl,h.pz,h.il,h.sz,h.rt,fun c=>⟨(h.cl c).1,(h.cl c).2.1.mono fun e he hx => ?_,(h.cl c).2.2.1,fun x hx=>hz x (hi c x hx)⟩⟩
 refine UQ fY he (hi c e.x hx fun h0 => ?_) hs
 have:=(fY.Hh e he).dY
 rw [h0] at this
 exact absurd this.2.2.2.2.1 (by simp [ah])
theorem Ez {o:Ob}(fY:dT pr w n R pm)(wH:dT pr w n R jV)(hs:∀e∈jV,e∈pm)(hp:∀x∈o.ay,x≠ah->∃e∈jV,e.x=x)(j:Nat):o.byte (jW jV) j=o.byte (jW pm) j:=by
 unfold Ob.byte
 congr 2
 rw [df,df]
 cases aH o.fresh ((j / 1024:Nat):Int) with
 | some b=>rfl
 | none =>
  simp only
  split
  ·rfl
  ·rename_i eP
   rcases lI (l:=o.ay) (i:=j / 1024) with c | c
   ·exact absurd c eP
   ·rw [UP fY wH hs (hp _ c eP)]
theorem dV.sub {o:Ob}{d:au}(h:dV pm o d)(fY:dT pr w n R pm)(wH:dT pr w n R jV)(hs:∀e∈jV,e∈pm)(hp:∀x∈o.ay,x≠ah->∃e∈jV,e.x=x):dV jV o d :=
 ⟨h.us,h.size,h.sz,h.fp,fun j=>by rw [Ez fY wH hs hp];exact h.byte j,h.gC,h.born⟩
end
theorem QI {os:List (Int×Ob)}{z:Int×List Pt}:(bc (os.map (fun e=>(e.1,ej e.2))++[z])).length=(os.map fun e=>(ej e.2).length).sum+z.2.length:=by
 unfold bc
 rw [List.flatMap_append,List.length_append]
 congr 1
 ·induction os with
  | nil=>rfl
  | cons e r ih=>rw [List.map_cons,List.flatMap_cons,List.length_append,ih,List.map_cons,List.sum_cons]
 ·simp
theorem Ll {os:List (Int×Ob)}{z:Int×List Pt}{x:Pt}:x∈bc (os.map (fun e=>(e.1,ej e.2))++[z])↔(∃e∈os,x∈ej e.2)\/x∈z.2:=by
 unfold bc
 rw [List.flatMap_append,List.mem_append]
 refine or_congr ?_ (by simp)
 rw [List.mem_flatMap]
 constructor
 ·rintro ⟨e,he,hx⟩
  obtain ⟨f,hf,rfl⟩:=List.mem_map.1 he
  exact ⟨f,hf,hx⟩
 ·rintro ⟨f,hf,hx⟩
  exact ⟨_,List.mem_map.2 ⟨f,hf,rfl⟩,hx⟩
theorem QJ {α:Type}(l:List α)(i:Nat):aH (iZ 0 l) (i:Int)=l[i]?:=by
 cases h:l[i]? with
 | none =>
  refine jU fun hk => ?_
  obtain ⟨e,he,e2⟩:=List.mem_map.1 hk
  obtain ⟨j,hj,e3, -⟩:=qg he
  rw [List.getElem?_eq_none_iff] at h
  omega
 | some v =>
  have hi:=(List.getElem?_eq_some_iff.1 h).1
  have hv:=(List.getElem?_eq_some_iff.1 h).2
  refine eU (oH 0 l) ?_
  have:=mR 0 l i (by rw [kU];exact hi)
  rw [Nat.zero_add,hv] at this
  rw [<-this];exact List.getElem_mem _
theorem EA (pm:List dv){b:List UInt8}(hb:b.length=8064):de pm 8 (iQ b):=by
 have h8:(eS b).length=8:=by simp [eS,dA,hb,cY]
 exact ⟨(fun _ h=>by cases h),fun e he=>by
  obtain ⟨j,hj,e1,e2⟩:=qg he
  have:=yF _ (List.mem_of_getElem? e2)
  omega,oH _ _,by simp [iQ],fun i _=>iE (Nat.zero_le _),by simp [iQ],by omega,⟨by simp [iQ,fy],by simp only [iQ];exact dw⟩,fun h=>by simp [iQ] at h⟩
theorem Lm {pr:Bool}{w n:Nat}{R:Rk}{pm nw:List dv}{b:List UInt8}{mo:Ob}(hb:b.length=8064)(hc:sX pm nw 8 (iQ b) mo)(fY:dT pr w n R (pm++nw))(j:Nat):mo.byte (jW (pm++nw)) j=(b[j]?).getD 0:=by
 have oQ:mo.fresh=[]:=(hc.RU.cl hc.clean).1
 have hm:=Nat.mod_lt j (show 0<1024 by omega)
 have ZW:mo.raw (jW (pm++nw)) (j / 1024)=if cB mo.ay (j / 1024)=ah then [] else jW (pm++nw) (cB mo.ay (j / 1024)):=by rw [df,oQ];rfl
 have YH:(b[j]?).getD 0=((((b.drop (j / 1024*1024)).take 1024))[j % 1024]?).getD 0:=by
  rw [List.getElem?_take,if_pos hm,List.getElem?_drop,show j / 1024*1024+j % 1024=j by omega]
 have h8:(jl 1024 b).length=8:=by rw [dA,hb];rfl
 unfold Ob.byte
 rw [ZW]
 have gM:aH (iQ b).fresh ((j / 1024:Nat):Int)=(eS b)[j / 1024]?:=QJ _ _
 by_cases c:j / 1024<8
 ·have hs:(eS b)[j / 1024]? = some (eg ((b.drop (j / 1024*1024)).take 1024)):=by
   rw [eS,List.getElem?_map,List.getElem?_eq_getElem oZ,lu];rfl
  rw [hs] at gM
  rcases hc.put _ _ gM with ⟨c1,c2⟩ | ⟨c1,c2,e,he,c3,c4⟩
  ·rw [if_pos c1,YH]
   rw [hY,fu] at c2
   rw [qm c2];rfl
  ·rw [if_neg c1,<-c3,wD fY (List.mem_append_right _ he),c4,YH]
   rw [hY] at c2
   rw [mw c2]
 ·rw [List.getElem?_eq_none (by simp [eS,dA,hb,cY];omega)] at gM
  have:=hc.cZ _ gM
  have e:b[j]? = none:=List.getElem?_eq_none oZ
  rw [if_pos (by rw [this];exact iE (Nat.zero_le _)),e];rfl
section
variable {pr:Bool}{n q txg:Nat}{ls:List (Option Lv)}{P P2:PS}{pm:List dv}{all os:List (Int×Ob)}{l:List au}{od ds:List (Int×List Pt)}{fs:List Pt}{mo:Ob}{ks:List Int}
theorem Ho (hI:wm ls)(hn:324<=n/\n<=2048)(hw:1<=ls.length/\ls.length<=5)(hp:pr=true->3<=ls.length)(ht:1<=txg/\txg+1<=281474976710656)(h:CmR pr ls n txg all od P ks os ds P2 mo fs)(hs:QB pr n ls P pm)(ha:bH pm all l)
  (hal:QF (bD pr ls.length n) (aN pr ls.length 1024) q txg P.x pm) (UF:∀x,x∈bc od↔∃e∈pm,e.x=x) (hq:pm.length<=q) (RN:aS l+10<=q) :
  ∃jV,wG jV os mo (l.map (lJ (txg+1)))/\(∀x,x∈bc ds↔∃e∈jV,e.x=x)/\jV.length<=q/\QF (bD pr ls.length n) (aN pr ls.length 1024) q (txg+1) ((bq (txg+1) P2.x (aN pr ls.length 1024) fs).sync ((txg+1:Nat):Int)) jV/\dT pr ls.length n P2.R jV/\qk n P.R P2.R/\(∀e∈ds,e.2.length<=200)/\(∀x,x∈bc ds↔x∈ej mo\/∃k o,aH os k=some o/\x∈ej o)/\fy mo.root=0/\mo.root.Ok/\mo.root.bj<=txg+1:=by
 obtain ⟨P1,ds0,hk,h1,h2,rfl,zl,zQ,zP⟩:=h
 have ib:1<=txg+1/\txg+1<=281474976710656:=by omega
 have Dc:ks.Nodup:=hk.nodup_iff.2 ha.kn
 have Gh:=h1.go.trans h2.go
 have mH:=h1.keys
 obtain ⟨n1,g1,g2,g3,rfl⟩:=lP.grow hI hn hw hp ib h1 hs (fun k o ho=>by
  rcases ha.keys k with ⟨c, -⟩ | ⟨o',d,c1, -,c3, -⟩
  ·rw [ho] at c;cases c
  ·rw [ho] at c1;cases c1;exact c3) Dc
 have ZI:(fH (slotsOf os)).length=8064:=by rw [mA,eI]
 obtain ⟨n2,k1,k2,k3⟩:=wu.grow hI hn hw hp ib h2 g1.w7 (EA (pm++n1) ZI)
 have hrt:=(wu.RQ (NL:=Hj 8) (iA pr hw hn).2 ib dZ ((EA (pm++n1) ZI).ZV g1.w7.po) h2).2.2.2
 have hg:=g1.trans k1
 have k3:=k3.pre
 have tt:=hg.w7.po
 have Pv:os.map (·.1)=ks:=mH.1
 have qq:=ha.cm hk Pv (fun k hk=>by
  obtain ⟨o,o',c1,c2,c3⟩:=g2 k hk
  exact ⟨o,o',c1,c2,c3.app⟩) (nw:=n1++n2) tt hg.bj
 have bW:(os.map (·.1)).Nodup:=qq.kn
 have hoc:∀k o,aH os k=some o->o.clean=true/\de (pm++(n1++n2)) (cY o.size 1024) o/\o.size<=65536:=fun k o ho=>by
  have hk1:k∈ks:=by rw [<-Pv];exact List.mem_map.2 ⟨_,aI ho,rfl⟩
  obtain ⟨p,p',c1,c2,c3⟩:=g2 k hk1
  rw [ho] at c2;cases c2
  rcases qq.keys k with ⟨c, -⟩ | ⟨o',d,e1, -,e3,e4⟩
  ·rw [ho] at c;cases c
  ·rw [ho] at e1;cases e1;exact ⟨c3.clean,e3,e4.sz⟩
 have Wy:∀e∈os,aH os e.1=some e.2:=fun e he=>lG bW he
 obtain ⟨D,hD⟩:∃D,D=os.map (fun e=>(e.1,ej e.2))++[(0,bI (mo.ay++mo.index))]:=⟨_,rfl⟩
 have hDm:∀x,x∈bc D↔(∃e∈os,x∈ej e.2)\/x∈ej mo:=fun x=>by rw [hD];exact Ll
 rw [<-hD] at zQ ⊢
 have ek:∀e∈n1++n2,e.x∈bc D:=fun e he=>by
  have eP:e.x≠ah:=fun h0=>by
   have:=(tt.Hh e (List.mem_append_right _ he)).dY
   rw [h0] at this
   exact absurd this.2.2.2.2.1 (by simp [ah])
  rw [hDm]
  rcases List.mem_append.1 he with he | he
  ·obtain ⟨k, -,o',c1,c2⟩:=g3 e he
   exact .inl ⟨(k,o'),aI c1,fZ.2 ⟨List.mem_append.2 c2,eP⟩⟩
  ·exact .inr (fZ.2 ⟨List.mem_append.2 (k2 e he),eP⟩)
 have hDe:∀x∈bc D,∃e∈pm++(n1++n2),e.x=x:=fun x hx=>by
  rcases (hDm x).1 hx with ⟨e,he,hx⟩ | hx
  ·obtain ⟨c1,c2, -⟩:=hoc _ _ (Wy e he)
   exact Ey c2 c1 x hx
  ·exact Ey k3.RU k3.clean x hx
 have vV:∀x,x∈bc D↔x∈ej mo\/∃k o,aH os k=some o/\x∈ej o:=fun x=>by
  rw [hDm]
  constructor
  ·rintro (⟨e,he,hx⟩ | hx)
   ·exact .inr ⟨_,_,Wy e he,hx⟩
   ·exact .inl hx
  ·rintro (hx | ⟨k,o,ho,hx⟩)
   ·exact .inr hx
   ·exact .inl ⟨_,aI ho,hx⟩
 obtain ⟨jV,wH⟩:∃p,p=(pm++(n1++n2)).filter fun e=>decide (e.x∈bc D):=⟨_,rfl⟩
 have j3:∀e∈jV,e∈pm++(n1++n2):=fun e he=>by rw [wH] at he;exact (List.mem_filter.1 he).1
 have Fa:∀x,x∈bc D↔∃e∈jV,e.x=x:=fun x=>by
  constructor
  ·intro hx
   obtain ⟨e,he,rfl⟩:=hDe x hx
   exact ⟨e,by rw [wH];exact List.mem_filter.2 ⟨he,by simpa using hx⟩,rfl⟩
  ·rintro ⟨e,he,rfl⟩
   rw [wH] at he
   simpa using (List.mem_filter.1 he).2
 have UR:dT pr ls.length n P2.R jV:=by rw [wH];exact tt.filter _
 have lS:=hal.cm hg Gh.ge.fB UF ek zl zQ zP hq ht.1
 rw [<-wH] at lS
 have hlO:∀e∈os,(ej e.2).length<=cost e.2.size:=fun e he=>by
  obtain ⟨c1,c2,c3⟩:=hoc _ _ (Wy e he)
  exact Nat.le_trans (qp c2 c1) (Hn c3)
 have hlM:(ej mo).length<=10:=qp k3.RU k3.clean
 have mj:jV.length<=q:=by
  have h1:(jV.map (·.x)).Nodup:=List.pairwise_map.2 (UR.inj.imp fun h e=>h (by rw [e]))
  have h2:=fv (l:=jV.map (·.x)) (m:=bc D) h1 fun x hx=>by
   obtain ⟨e,he,rfl⟩:=List.mem_map.1 hx
   exact (Fa _).2 ⟨e,he,rfl⟩
  rw [List.length_map,hD,QI] at h2
  have h3:(os.map fun e=>(ej e.2).length).sum<=eH os:=by
   have:∀L:List (Int×Ob),(∀e∈L,(ej e.2).length<=cost e.2.size)->(L.map fun e=>(ej e.2).length).sum<=eH L:=by
    intro L
    induction L with
    | nil=>intro _;exact Nat.zero_le _
    | cons e r ih =>
     intro h
     have a1:=h e (List.mem_cons_self ..)
     have a2:=ih fun x hx=>h x (List.mem_cons_of_mem _ hx)
     simp only [eH,List.map_cons,List.sum_cons] at *
     omega
   exact this os hlO
  have h4:=qq.used
  have h5:aS (l.map (lJ (txg+1)))=aS l:=by
   unfold aS
   rw [List.map_map]
   congr 1
   refine List.map_congr_left fun d _ => ?_
   simp only [Function.comp]
   rw [show (lJ (txg+1) d).b=d.b from (dq _ d 64).2.1]
  have h6:(bI (mo.ay++mo.index)).length<=10:=hlM
  simp only at h2
  omega
 have jC:∀ {N:Nat} {o:Ob},de (pm++(n1++n2)) N o->(∀x∈ej o,x∈bc D)->(∀x∈o.ay,x≠ah->∃e∈jV,e.x=x)/\∀x∈o.index,x≠ah->∃e∈jV,e.x=x:=fun h hl=>⟨fun x hx eP=>(Fa x).1 (hl x (fZ.2 ⟨List.mem_append_left _ hx,eP⟩)),fun x hx eP=>(Fa x).1 (hl x (fZ.2 ⟨List.mem_append_right _ hx,eP⟩))⟩
 refine ⟨jV,⟨⟨fun k => ?_,qq.kn,qq.ord,qq.no⟩,fun k o ho=>(hoc k o ho).1,k3.clean, ?_,fun j => ?_⟩,Fa,mj,lS,UR,hg.dat,fun e he => ?_,vV,hrt.1.1,hrt.1.2,hrt.2.2.2⟩
 ·rcases qq.keys k with c | ⟨o,d,c1,c2,c3,c4⟩
  ·exact .inl c
  ·have hl:=jC c3 fun x hx=>(hDm x).2 (.inl ⟨(k,o),aI c1,hx⟩)
   exact .inr ⟨o,d,c1,c2,c3.sub tt j3 hl.1 fun _=>hl.2,c4.sub tt UR j3 hl.1⟩
 ·have hl:=jC k3.RU fun x hx=>(hDm x).2 (.inr hx)
  exact k3.RU.sub tt j3 hl.1 fun _=>hl.2
 ·have hl:=jC k3.RU fun x hx=>(hDm x).2 (.inr hx)
  rw [Ez tt UR j3 hl.1]
  have:=Lm (pm:=pm) (nw:=n1++n2) ZI k3 tt j
  exact this
 ·rw [hD] at he
  rcases List.mem_append.1 he with he | he
  ·obtain ⟨f,hf,rfl⟩:=List.mem_map.1 he
   obtain ⟨-, -,c3⟩:=hoc _ _ (Wy f hf)
   have:=hlO f hf
   have:=lx c3
   simp only;omega
  ·rw [List.mem_singleton.1 he]
   have:(bI (mo.ay++mo.index)).length<=10:=hlM
   simp only;omega
end
section
variable {pr:Bool}{n N:Nat}{ls:List (Option Lv)}{R:Rk}{pm:List dv}{o:Ob}
variable (hI:wm ls)(hn:324<=n)(hw:1<=ls.length/\ls.length<=5)(hp:pr=true->3<=ls.length)(bx:∀i,i<ls.length->R.size i=n)(fY:dT pr ls.length n R pm)
include hI hn hw hp bx fY
theorem QK {e:dv}(he:e∈pm)(hb:e.b=fR e.g)(hl:1<=e.g.length/\e.g.length<=16)(ho:∀y∈e.g,fy y=0/\y.Ok):Qk R ls pr n (ff pm) e.x:=by
 have h1:=wE fY he
 have h2:=(fY.Hh e he).Ql hI hn hw hp bx
 exact ⟨by rw [h1,<-hb];exact h2,by rw [h1];exact hl,by rw [h1];exact ho⟩
theorem Std.ld (h:Std pm o):rM R ls pr n (ff pm) o.root:=by
 rcases h.top with ⟨h0, -⟩ | ⟨h0,lv,h2,h3,h4,h5,⟨e,he,e1,e2,e3⟩,h6,h7⟩
 ·exact ⟨fun c=>absurd h0 c,fun c=>absurd h0 c,fun c=>absurd h0 c⟩
 ·have hu:ff pm o.root=lv:=by rw [<-e1,wE fY he,e3]
  refine ⟨fun _ => ?_,fun _=>by rw [hu];exact h4,fun _ y hy hy0 => ?_⟩
  ·have:=QK hI hn hw hp bx fY he (by rw [e2,e3]) (by rw [e3];omega) (by rw [e3];exact h6)
   rw [e1] at this;exact this
  ·rw [hu] at hy
   obtain ⟨j,hj,c⟩:=Hi hy
   rcases h7 j hj with ⟨c1, -⟩ | ⟨c1,f,hf,f1,f2,f3,f4, -,f6, -⟩
   ·rw [c] at c1;exact absurd c1 hy0
   ·have:=QK hI hn hw hp bx fY hf f2 ⟨f3,f4⟩ f6
    rw [f1,c] at this;exact this
end
theorem QL {up:Pt->List Pt}:∀ {lv:List Pt},(∀j,j+1<lv.length->(jJ up (cB lv j)).length=16)->∀j i,j<lv.length->i<16->cB (fe up lv) (16*j+i)=cB (jJ up (cB lv j)) i
 | [],_,j,i,hj,_=>absurd hj (by simp)
 | x :: r,h,0,i,hj,hi=>by
  unfold fe
  rw [List.flatMap_cons,Nat.mul_zero,Nat.zero_add]
  show cB (jJ up x++_) i=cB (jJ up x) i
  by_cases c:r=[]
  ·subst c;simp [cB]
  ·have hx:(jJ up x).length=16:=h 0 (by have:=List.length_pos_iff.2 c;simp;omega)
   unfold cB
   rw [List.getElem?_append_left oZ]
 | x :: r,h,j+1,i,hj,hi=>by
  have hx:(jJ up x).length=16:=h 0 (by simp at hj;simp;omega)
  have ih:=QL (up:=up) (lv:=r) (fun k hk=>h (k+1) (by simpa using hk)) j i (by simpa using hj) hi
  have e:cB (x :: r) (j+1)=cB r j:=by simp [cB]
  rw [e,<-ih]
  unfold fe cB
  rw [List.flatMap_cons,List.getElem?_append_right oZ,hx]
  congr 2;omega
theorem Lo (up:Pt->List Pt)(i:Nat):cB (jJ up ah) i=ah:=by
 unfold jJ cB
 rw [if_pos rfl,List.getElem?_replicate]
 split <;> rfl
section
variable {pr:Bool}{w n N:Nat}{R:Rk}{pm:List dv}{o:Ob}
theorem tG (fY:dT pr w n R pm)(h:Std pm o)(u:Bool)(z:Nat):(∀i,cB (lH (ff pm) ⟨u,z,o.root⟩).ay i=cB o.ay i)/\Std pm (lH (ff pm) ⟨u,z,o.root⟩)/\(∀x,x≠ah->(x∈(lH (ff pm) ⟨u,z,o.root⟩).index↔x∈o.index))/\((lH (ff pm) ⟨u,z,o.root⟩).index=[]/\(lH (ff pm) ⟨u,z,o.root⟩).ay=[]\/(lH (ff pm) ⟨u,z,o.root⟩).index=o.index/\(lH (ff pm) ⟨u,z,o.root⟩).ay.length+16<=16*o.index.length):=by
 rcases h.top with ⟨h0,h1,h2⟩ | ⟨h0,lv,h2,h3,h4,h5,⟨e,he,e1,e2,e3⟩,h6,h7⟩
 ·have e:lH (ff pm) ⟨u,z,o.root⟩=⟨u,z,o.root,[],[],[],true⟩:=if_pos h0
  rw [e]
  refine ⟨fun i=>by rw [h1];exact iE (Nat.zero_le _),⟨h.ok,.inl ⟨h0,fun i=>iE (Nat.zero_le _),fun _ h=>by cases h⟩⟩,fun x hx=>⟨(fun h=>by cases h),fun h=>absurd (h2 x h) hx⟩,.inl ⟨rfl,rfl⟩⟩
 ·have hu:ff pm o.root=lv:=by rw [<-e1,wE fY he,e3]
  have e:lH (ff pm) ⟨u,z,o.root⟩=⟨u,z,o.root,fe (ff pm) lv,lv++[o.root],[],true⟩:=by unfold lH;rw [if_neg h0];simp only [hu]
  rw [e]
  have ab2:∀j,j<lv.length->(cB lv j=ah/\jJ (ff pm) (cB lv j)=List.replicate 16 ah)\/(cB lv j≠ah/\∃f∈pm,f.x=cB lv j/\jJ (ff pm) (cB lv j)=f.g/\f.g.length<=16/\(j+1<lv.length->f.g.length=16)/\∀i,i<16->cB f.g i=cB o.ay (16*j+i)):=fun j hj=>by
   rcases h7 j hj with ⟨c1, -⟩ | ⟨c1,f,hf,f1,f2,f3,f4,f5,f6,f7⟩
   ·exact .inl ⟨c1,if_pos c1⟩
   ·exact .inr ⟨c1,f,hf,f1,by unfold jJ;rw [if_neg c1,<-f1,wE fY hf],f4,f5,f7⟩
  have h16:∀j,j+1<lv.length->(jJ (ff pm) (cB lv j)).length=16:=fun j hj=>by
   rcases ab2 j oZ with ⟨-,c⟩ | ⟨-,f, -, -,c, -,c2, -⟩
   ·rw [c];simp
   ·rw [c];exact c2 hj
  have hle:(fe (ff pm) lv).length<=16*lv.length:=by
   have:∀(r:List Pt),(∀x∈r,(jJ (ff pm) x).length<=16)->(fe (ff pm) r).length<=16*r.length:=by
    intro r
    induction r with
    | nil=>intro _;exact Nat.zero_le _
    | cons x r ih =>
     intro h
     have a1:=h x (List.mem_cons_self ..)
     have a2:=ih fun y hy=>h y (List.mem_cons_of_mem _ hy)
     simp only [fe,List.flatMap_cons,List.length_append,List.length_cons] at *
     omega
   refine this lv fun x hx => ?_
   obtain ⟨j,hj,rfl⟩:=Hi hx
   rcases ab2 j hj with ⟨-,c⟩ | ⟨-,f, -, -,c,c2, -⟩
   ·rw [c];simp
   ·rw [c];exact c2
  have sV:∀i,cB (fe (ff pm) lv) i=cB o.ay i:=fun i=>by
   by_cases c:i<16*lv.length
   ·have hj:i / 16<lv.length:=by omega
    have hm:=Nat.mod_lt i (show 0<16 by omega)
    have e:=QL h16 (i / 16) (i % 16) hj hm
    rw [show 16*(i / 16)+i % 16=i by omega] at e
    rw [e]
    rcases h7 _ hj with ⟨c1,c2⟩ | ⟨c1,f,hf,f1,f2,f3,f4,f5,f6,f7⟩
    ·have:=c2 (i % 16) hm
     rw [show 16*(i / 16)+i % 16=i by omega] at this
     rw [c1,Lo,this]
    ·have:=f7 (i % 16) hm
     rw [show 16*(i / 16)+i % 16=i by omega] at this
     rw [<-this]
     unfold jJ
     rw [if_neg c1,<-f1,wE fY hf]
   ·rw [iE oZ,iE oZ]
  refine ⟨sV,⟨h.ok,.inr ⟨h0,lv,rfl,h3,h4,hle,⟨_,he,e1,e2,e3⟩,h6,fun j hj => ?_⟩⟩,fun x _=>by rw [h2],.inr ⟨h2.symm,by rw [h2,List.length_append];simp only [List.length_cons,List.length_nil];omega⟩⟩
  simp only [sV]
  exact h7 j hj
theorem oK {l l':List Pt}(h:∀i,cB l i=cB l' i){x:Pt}(hx:x∈l)(h0:x≠ah):x∈l':=by
 obtain ⟨i, -,c⟩:=Hi hx
 rw [h] at c
 rcases lI (l:=l') (i:=i) with d | d
 ·rw [c] at d;exact absurd d h0
 ·rw [c] at d;exact d
theorem AJ (fY:dT pr w n R pm)(h:Std pm o)(u:Bool)(z:Nat)(x:Pt):x∈ej (lH (ff pm) ⟨u,z,o.root⟩)↔x∈ej o:=by
 obtain ⟨h1, -,h3, -⟩:=tG fY h u z
 unfold ej
 rw [fZ,fZ,List.mem_append,List.mem_append]
 constructor
 ·rintro ⟨c | c,h0⟩
  ·exact ⟨.inl (oK h1 c h0),h0⟩
  ·exact ⟨.inr ((h3 x h0).1 c),h0⟩
 ·rintro ⟨c | c,h0⟩
  ·exact ⟨.inl (oK (fun i=>(h1 i).symm) c h0),h0⟩
  ·exact ⟨.inr ((h3 x h0).2 c),h0⟩
theorem WR (fY:dT pr w n R pm)(h:de pm N o)(hc:o.clean=true)(u:Bool)(z:Nat):de pm N (lH (ff pm) ⟨u,z,o.root⟩):=by
 obtain ⟨c1,c2,c3,c4⟩:=h.cl hc
 obtain ⟨h1,h2,h3,h4⟩:=tG fY c2 u z
 obtain ⟨s1,s2,s3,s4,s5⟩:=eJ (ff pm) ⟨u,z,o.root⟩
 have hz:∀(x:Pt) {p:Prop},(x≠ah->p)->x=ah\/p:=fun x p h=>by
  by_cases c:x=ah
  ·exact .inl c
  ·exact .inr (h c)
 have hN:o.index.length<=cY N 16+1:=by
  have:xa (Hj N)<=cY N 16+1:=by unfold xa Hj cY;split <;> omega
  omega
 have mj:(lH (ff pm) ⟨u,z,o.root⟩).ay.length<=Hj N:=by
  rcases h4 with ⟨-,e⟩ | ⟨e,e2⟩
  ·rw [e];exact Nat.zero_le _
  ·unfold Hj;omega
 refine ⟨fun x hx=>hz x fun h0=>(h.ptr x (oK h1 hx h0)).resolve_left h0,by rw [s4];exact (fun _ h=>by cases h),by rw [s4];exact List.nodup_nil,mj,fun i hi=>by rw [h1];exact h.pz i hi, ?_,h.sz,by rw [s2];exact h.rt,fun _=>⟨s4,h2, ?_,fun x hx=>hz x fun h0=>(c4 x ((h3 x h0).1 hx)).resolve_left h0⟩⟩
 ·rcases h4 with ⟨e, -⟩ | ⟨e, -⟩
  ·rw [e];exact Nat.zero_le _
  ·rw [e];exact h.il
 ·rcases h4 with ⟨e, -⟩ | ⟨e, -⟩
  ·rw [e];exact Nat.zero_le _
  ·rw [e];exact c3
theorem I3 (fY:dT pr w n R pm)(h:Std pm o)(hf:o.fresh=[])(u:Bool)(z:Nat)(j:Nat):(lH (ff pm) ⟨u,z,o.root⟩).byte (jW pm) j=o.byte (jW pm) j:=by
 unfold Ob.byte
 rw [df,df,hf,(eJ (ff pm) ⟨u,z,o.root⟩).2.2.2.1,(tG fY h u z).1]
theorem ZZ {d:au}(fY:dT pr w n R pm)(h:dV pm o d)(hi:de pm N o)(hc:o.clean=true):dV pm (lH (ff pm) o.slot) d:=by
 obtain ⟨c1,c2, -, -⟩:=hi.cl hc
 obtain ⟨s1,s2,s3,s4,s5⟩:=eJ (ff pm) o.slot
 refine ⟨by rw [s3];exact h.us,by rw [s1];exact h.size,by rw [s1];exact h.sz,by rw [s4];exact (fun _ h=>by cases h),fun j=>by rw [<-h.byte j];exact I3 fY c2 c1 o.used o.size j,fun i wb=>by rw [s4,<-h.gC i wb,c1],fun i wb ht => ?_⟩
 rw [show cB (lH (ff pm) o.slot).ay i=cB o.ay i from (tG fY c2 o.used o.size).1 i]
 exact h.born i wb ht
end
theorem Hq (cs:List (Int×Ob)){i:Nat}(hi:i<112):(slotsOf cs)[i]? = some (match aH cs ((i+1:Nat):Int) with
 | some o=>o.slot
 | none=>eu):=by
 unfold slotsOf
 rw [List.getElem?_map,List.getElem?_range hi];rfl
theorem QM {up:Pt->List Pt}:∀ {i:Nat} {l:List eW} (k:Nat),aH (xb up i l) ((k:Nat):Int)=if i<k/\k<=i+l.length then (match l[k - i - 1]? with
 | some s=>if s.used then some (lH up s) else none
 | none=>none) else none
 | i,[],k=>by rw [if_neg (by simp only [List.length_cons,List.length_nil];omega)];rfl
 | i,s :: r,k=>by
  have ih:=QM (up:=up) (i:=i+1) (l:=r) k
  unfold xb
  by_cases hu:s.used=true
  ·rw [if_pos hu,List.singleton_append]
   by_cases c:i+1=k
   ·subst c
    rw [dg,if_pos (by simp only [List.length_cons];omega),show i+1 - i - 1=0 by omega]
    simp [hu]
   ·rw [bR oZ,ih]
    by_cases d:i+1<k/\k<=i+1+r.length
    ·rw [if_pos d,if_pos (by simp only [List.length_cons];omega),show k - i - 1=(k - (i+1) - 1)+1 by omega,List.getElem?_cons_succ]
    ·rw [if_neg d,if_neg (by simp only [List.length_cons,List.length_nil];omega)]
  ·rw [if_neg hu,List.nil_append,ih]
   by_cases d:i+1<k/\k<=i+1+r.length
   ·rw [if_pos d,if_pos (by simp only [List.length_cons];omega),show k - i - 1=(k - (i+1) - 1)+1 by omega,List.getElem?_cons_succ]
   ·rw [if_neg d]
    by_cases c:i+1=k
    ·subst c
     rw [if_pos (by simp only [List.length_cons];omega),show i+1 - i - 1=0 by omega]
     simp [hu]
    ·rw [if_neg (by simp only [List.length_cons,List.length_nil];omega)]
theorem mV {up:Pt->List Pt}:∀ {i:Nat} {l:List eW},((xb up i l).map (·.1)).Nodup
 | i,[]=>List.nodup_nil
 | i,s :: r=>by
  have ih:=mV (up:=up) (i:=i+1) (l:=r)
  unfold xb
  split
  ·rw [List.singleton_append,List.map_cons,List.nodup_cons]
   refine ⟨fun h => ?_,ih⟩
   obtain ⟨e,he,e2⟩:=List.mem_map.1 h
   obtain ⟨j,s', -, -,rfl⟩:=qi he
   simp only at e2;omega
  ·exact ih
section
variable {pr:Bool}{n:Nat}{ls:List (Option Lv)}{R:Rk}{pm:List dv}{cs:List (Int×Ob)}{mo:Ob}{l:List au}
theorem wG.lk (h:wG pm cs mo l)(k:Int):aH (xb (ff pm) 0 (slotsOf cs)) k=(aH cs k).map fun o=>lH (ff pm) o.slot:=by
 by_cases hk:1<=k/\k<=112
 ·obtain ⟨q,rfl⟩:∃q:Nat,k=((q+1:Nat):Int):=⟨(k - 1).toNat,by omega⟩
  rw [QM,if_pos (by rw [eI];omega),show q+1 - 0 - 1=q by omega,Hq cs oZ]
  rcases h.rel.keys ((q+1:Nat):Int) with ⟨c, -⟩ | ⟨o,d,c1,c2,c3,c4⟩
  ·rw [c];rfl
  ·rw [c1]
   simp only
   rw [if_pos (show o.slot.used=true from c4.us)];rfl
 ·have h1:aH cs k=none:=by
   rcases h.rel.keys k with ⟨c, -⟩ | ⟨o,d,c1,c2, -⟩
   ·exact c
   ·obtain ⟨c3,c4⟩:=fg c2
    have:=h.rel.no d c3
    omega
  rw [h1]
  refine jU fun hc => ?_
  obtain ⟨e,he,e2⟩:=List.mem_map.1 hc
  obtain ⟨j,s,h2, -,rfl⟩:=qi he
  have:=(List.getElem?_eq_some_iff.1 h2).1
  rw [eI] at this
  simp only at e2;omega
theorem wG.WT (h:wG pm cs mo l):slotsOf (xb (ff pm) 0 (slotsOf cs))=slotsOf cs:=by
 unfold slotsOf
 refine List.map_congr_left fun i _ => ?_
 have:=h.lk ((i+1:Nat):Int)
 unfold slotsOf at this
 rw [this]
 cases aH cs ((i+1:Nat):Int) with
 | none=>rfl
 | some o =>
  simp only [Option.map_some]
  obtain ⟨s1,s2,s3, -, -⟩:=eJ (ff pm) o.slot
  unfold Ob.slot at *
  rw [s1,s2,s3]
theorem wG.used (h:wG pm cs mo l){s:eW}(hs:s∈slotsOf cs):s.Ok/\(s.used=true->∃k o,aH cs k=some o/\s=o.slot):=by
 rcases sD hs with rfl | ⟨k,o,ho,rfl⟩
 ·exact ⟨uY,fun hc=>by cases hc⟩
 ·refine ⟨?_,fun _=>⟨k,o,ho,rfl⟩⟩
  rcases h.rel.keys k with ⟨c, -⟩ | ⟨o',d,c1,c2,c3,c4⟩
  ·rw [ho] at c;cases c
  ·rw [ho] at c1;cases c1
   exact ⟨(fun hu=>by have:=c4.us;rw [show o.slot.used=o.used from rfl,this] at hu;cases hu),c4.sz,c3.rt.1,c3.rt.2⟩
theorem wG.back {w:Nat}(h:wG pm cs mo l)(fY:dT pr w n R pm):wG pm (xb (ff pm) 0 (slotsOf cs)) (fX (ff pm) mo.root) l:=by
 have F7:=h.mi.cl h.mc
 refine ⟨⟨fun k => ?_,mV,h.rel.ord,h.rel.no⟩,fun k o ho => ?_,(eJ _ _).2.2.2.2,WR fY h.mi h.mc false 8064,fun j => ?_⟩
 ·rw [h.lk]
  rcases h.rel.keys k with ⟨c1,c2⟩ | ⟨o,d,c1,c2,c3,c4⟩
  ·rw [c1];exact .inl ⟨rfl,c2⟩
  ·rw [c1]
   refine .inr ⟨_,d,rfl,c2, ?_,ZZ fY c4 c3 (h.cl k o c1)⟩
   rw [show (lH (ff pm) o.slot).size=o.size from (eJ _ _).1]
   exact WR fY c3 (h.cl k o c1) o.used o.size
 ·rw [h.lk] at ho
  obtain ⟨p,hp,rfl⟩:=Option.map_eq_some_iff.1 ho
  exact (eJ _ _).2.2.2.2
 ·rw [h.WT,<-h.JE j]
  exact I3 fY F7.2.1 F7.1 false 8064 j
theorem wG.live {w:Nat}(h:wG pm cs mo l)(fY:dT pr w n R pm)(x:Pt):x∈bc (AD (ff pm) (fX (ff pm) mo.root) (slotsOf cs))↔x∈ej mo\/∃k o,aH cs k=some o/\x∈ej o:=by
 have F7:=h.mi.cl h.mc
 unfold AD bc
 rw [List.flatMap_cons,List.mem_append]
 refine or_congr (AJ fY F7.2.1 false 8064 x) ?_
 rw [List.mem_flatMap]
 constructor
 ·rintro ⟨e,he,hx⟩
  obtain ⟨f,hf,rfl⟩:=List.mem_map.1 he
  have:=lG mV hf
  rw [h.lk] at this
  obtain ⟨p,hp,e2⟩:=Option.map_eq_some_iff.1 this
  simp only at hx
  rw [<-e2] at hx
  rcases h.rel.keys f.1 with ⟨c, -⟩ | ⟨o',d,c1, -,c3, -⟩
  ·rw [hp] at c;cases c
  ·rw [hp] at c1;cases c1
   exact ⟨f.1,p,hp,(AJ fY (c3.cl (h.cl _ _ hp)).2.1 p.used p.size x).1 hx⟩
 ·rintro ⟨k,o,ho,hx⟩
  have hl:=h.lk k
  rw [ho] at hl
  rcases h.rel.keys k with ⟨c, -⟩ | ⟨o',d,c1, -,c3, -⟩
  ·rw [ho] at c;cases c
  ·rw [ho] at c1;cases c1
   exact ⟨_,List.mem_map.2 ⟨_,aI hl,rfl⟩,(AJ fY (c3.cl (h.cl _ _ ho)).2.1 o.used o.size x).2 hx⟩
theorem wG.aeO (h:wG pm cs mo l){w:Nat}(fY:dT pr w n R pm):(List.range 8).flatMap ((fX (ff pm) mo.root).fN (jW pm))=fH (slotsOf cs):=by
 have hb:=(h.back fY).JE
 rw [h.WT] at hb
 have hz:(fX (ff pm) mo.root).size=8064:=(eJ _ _).1
 have hl:=wz (jW pm) (fX (ff pm) mo.root) hz
 have aeP:∀m,m<=8->(List.range m).flatMap ((fX (ff pm) mo.root).fN (jW pm))=(fX (ff pm) mo.root).l8 (jW pm) 0 (min (m*1024) 8064):=by
  intro m
  induction m with
  | zero=>intro _;rfl
  | succ m ih =>
   intro hm
   rw [List.range_succ,List.flatMap_append,ih oZ,List.flatMap_singleton,Ob.nu,hz]
   have e:=Ob.oC (jW pm) (fX (ff pm) mo.root) 0 (min (m*1024) 8064) (aT 8064 m)
   rw [show 0+min (m*1024) 8064=m*1024 by omega] at e
   rw [e]
   congr 1
   unfold aT;omega
 rw [aeP 8 (Nat.le_refl _)]
 have hT:(fH (slotsOf cs)).length=8064:=by rw [mA,eI]
 apply List.ext_getElem
 ·rw [Ob.ns,hT];rfl
 ·intro i h1 h2
  have:=hb i
  rw [List.getElem?_eq_getElem h2] at this
  simp only [Ob.l8,List.getElem_map,List.getElem_range',Nat.one_mul,Nat.zero_add]
  exact this
end
section
variable {pr:Bool}{n:Nat}{R:Rk}{pm:List dv}
theorem QN {w:Nat}{od:List (Int×List Pt)}(h:dT pr w n R pm)(hk:∀x∈bc od,∃e∈pm,e.x=x):OpP (bD pr w n) (aN pr w 1024) od:=by
 refine ⟨fun x hx => ?_,fun x hx => ?_,fun x hx => ?_,fun x hx y hy e => ?_⟩
 ·obtain ⟨e,he,rfl⟩:=hk x hx
  exact (h.Hh e he).top
 ·obtain ⟨e,he,rfl⟩:=hk x hx
  rw [<-Int.natCast_mul]
  exact (h.Hh e he).at_
 ·obtain ⟨e,he,rfl⟩:=hk x hx
  have:=(h.Hh e he).fit
  exact_mod_cast this
 ·obtain ⟨f,hf,rfl⟩:=hk x hx
  obtain ⟨g,hg,rfl⟩:=hk y hy
  rw [h.one hf hg e]
variable {ls:List (Option Lv)}
theorem QO (hI:wm ls)(hn:324<=n)(hw:1<=ls.length/\ls.length<=5)(hp:pr=true->3<=ls.length)(bx:∀i,i<ls.length->R.size i=n)(h:dT pr ls.length n R pm){o:Ob}{N:Nat}(ho:de pm N o):∀x∈o.ay,x≠ah->KC R ls pr n x (jW pm x):=fun x hx h0=>by
 rcases ho.ptr x hx with c | ⟨e,he,rfl⟩
 ·exact absurd c h0
 ·rw [wD h he]
  exact (h.Hh e he).Ql hI hn hw hp bx
end
theorem dV.l8 {pm:List dv}{o:Ob}{d:au}(h:dV pm o d):o.l8 (jW pm) 0 o.size=d.b:=by
 unfold Ob.l8
 apply List.ext_getElem (by simp [h.size])
 intro i h1 h2
 rw [List.getElem_map,List.getElem_range',h.byte,List.getElem?_eq_getElem oZ]
 simp
theorem dV.part {pm:List dv}{o:Ob}{d:au}(h:dV pm o d)(x y:Nat):o.l8 (jW pm) x (dB o.size x y)=(d.b.drop x).take y:=by
 have hs:=h.size
 unfold Ob.l8
 apply List.ext_getElem (by simp [dB,hs])
 intro i h1 h2
 rw [List.getElem_map,List.getElem_range',h.byte,List.getElem_take,List.getElem_drop]
 simp only [List.length_map,List.length_range',dB] at h1
 rw [List.getElem?_eq_getElem oZ]
 simp
theorem bH.mem {pm:List dv}{all:List (Int×Ob)}{l:List au}(h:bH pm all l)(k:Int):k∈all.map (·.1)↔k∈l.map fun d=>(d.no:Int):=by
 constructor
 ·intro hk
  obtain ⟨⟨q,o⟩,he,rfl⟩:=List.mem_map.1 hk
  rcases h.keys q with ⟨c, -⟩ | ⟨o',d, -,c, -⟩
  ·exact absurd (List.mem_map.2 ⟨_,he,rfl⟩) (pV c)
  ·exact List.mem_map.2 ⟨d,(fg c).1,(fg c).2⟩
 ·intro hk
  obtain ⟨d,hd,rfl⟩:=List.mem_map.1 hk
  rcases h.keys d.no with ⟨-,c⟩ | ⟨o',d',c, -⟩
  ·rw [rO h.ord hd] at c;cases c
  ·exact List.mem_map.2 ⟨_,aI c,rfl⟩
theorem bH.dn {pm:List dv}{all:List (Int×Ob)}{l:List au}(h:bH pm all l):(l.map fun d=>(d.no:Int)).Pairwise (· < ·):=by
 rw [List.pairwise_map]
 exact h.ord.imp fun h=>by omega
theorem bH.ks {pm:List dv}{all:List (Int×Ob)}{l:List au}(h:bH pm all l){ks:List Int}(hp:ks.Perm (all.map (·.1)))(hs:ks.Pairwise (· <= ·)):ks=l.map fun d=>(d.no:Int):=by
 have hd:=h.dn
 have hn:(l.map fun d=>(d.no:Int)).Nodup:=hd.imp fun h=>by omega
 have hp2:(all.map (·.1)).Perm (l.map fun d=>(d.no:Int)):=(List.perm_ext_iff_of_nodup h.kn hn).2 h.mem
 exact (hp.trans hp2).eq_of_pairwise (fun a b _ _ h1 h2=>Int.le_antisymm h1 h2) hs (hd.imp fun h=>Int.le_of_lt h)
theorem bH.len {pm:List dv}{all:List (Int×Ob)}{l:List au}(h:bH pm all l):all.length=l.length:=by
 have hn:(l.map fun d=>(d.no:Int)).Nodup:=h.dn.imp fun h=>by omega
 have:=((List.perm_ext_iff_of_nodup h.kn hn).2 h.mem).length_eq
 simpa using this
theorem dV.since {pm:List dv}{o:Ob}{d:au}(h:dV pm o d)(g:Nat):cn o g=aV d g:=by
 unfold cn aV
 refine List.map_congr_left fun i hi => ?_
 have hi:=List.mem_range.1 hi
 unfold mK mL
 rw [h.gC i hi]
 cases ht:d.gC i with
 | true=>simp
 | false =>
  have hb:=h.born i hi ht
  unfold cB at hb
  cases hp:o.ay[i]? with
  | none=>rw [hp] at hb;simp only [Option.getD_none] at hb;rw [<-hb];simp [ah]
  | some x=>rw [hp] at hb;simp only [Option.getD_some] at hb;rw [<-hb];simp
theorem bH.size {pm:List dv}{all:List (Int×Ob)}{l:List au}(h:bH pm all l)(k:Int):dr all k=iD l k:=by
 by_cases hk:1<=k/\k<=112
 ·rcases h.keys k with ⟨h1,h2⟩ | ⟨o,d,h1,h2, -,h3⟩
  ·rw [fc hk h1,p6 hk h2]
  ·rw [eL hk h1,rI hk h2,h3.size]
 ·rw [dR hk,rH hk]
theorem dU (x:au)(r:List au)(k:Int):ey (x :: r) k=if (x.no:Int)=k then some x else ey r k:=by
 unfold ey
 by_cases c:(x.no:Int)=k
 ·rw [if_pos c,List.find?_cons_of_pos (by simpa using c)]
 ·rw [if_neg c,List.find?_cons_of_neg (by simpa using c)]
theorem wI {o:au}{k:Int}(hk:(o.no:Int)≠k):∀(l:List au) (d:Bool),ey (dF o d l) k=ey l k
 | [],d=>by
  cases d
  ·show ey [o] k=_
   rw [dU,if_neg hk]
  ·rfl
 | x :: r,d=>by
  have ih:=wI hk r (d||decide (o.no<=x.no))
  rw [dF]
  have e:ey ((if x.no=o.no then [] else [x])++dF o (d||decide (o.no<=x.no)) r) k=ey (x :: r) k:=by
   rw [dU]
   by_cases c:x.no=o.no
   ·rw [if_pos c,if_neg oZ,List.nil_append,ih]
   ·rw [if_neg c,List.singleton_append,dU,ih]
  split
  ·rw [List.singleton_append,dU,if_neg hk,e]
  ·rw [List.nil_append,e]
theorem yG {o:au}:∀l:List au,ey (dF o false l) o.no=some o
 | []=>by
  show ey [o] _=_
  rw [dU,if_pos rfl]
 | x :: r=>by
  rw [dF]
  by_cases c:o.no<=x.no
  ·rw [if_pos ⟨rfl,c⟩,List.singleton_append,dU,if_pos rfl]
  ·rw [if_neg (fun h=>c h.2),List.nil_append,if_neg oZ,List.singleton_append,dU,if_neg oZ,Bool.false_or,decide_eq_false c]
   exact yG r
theorem US (o:au)(l:List au)(k:Int):ey (dF o false l) k=if (o.no:Int)=k then some o else ey l k:=by
 by_cases c:(o.no:Int)=k
 ·rw [if_pos c,<-c];exact yG l
 ·rw [if_neg c];exact wI c l false
theorem rQ {o:au}:∀l:List au,dF o true l=l.filter fun x=>decide (x.no≠o.no)
 | []=>rfl
 | x :: r=>by
  rw [dF,if_neg (by simp),List.nil_append,Bool.true_or,rQ r]
  by_cases c:x.no=o.no
  ·rw [if_pos c,List.filter_cons_of_neg (by simp [c])];rfl
  ·rw [if_neg c,List.filter_cons_of_pos (by simp [c])];rfl
theorem EB {o:au}:∀ {l:List au},(l.Pairwise fun a b=>a.no<b.no)->(dF o false l).Pairwise fun a b=>a.no<b.no
 | [],_=>List.pairwise_singleton ..
 | x :: r,h=>by
  obtain ⟨h1,h2⟩:=List.pairwise_cons.1 h
  rw [dF]
  by_cases c:o.no<=x.no
  ·rw [if_pos ⟨rfl,c⟩,decide_eq_true c,Bool.false_or,rQ]
   have hf:(r.filter fun x=>decide (x.no≠o.no)).Pairwise fun a b=>a.no<b.no:=h2.sublist List.filter_sublist
   have hm:∀y∈r.filter fun x=>decide (x.no≠o.no),x.no<y.no/\o.no<y.no:=fun y hy=>by
    have:=h1 y (List.mem_filter.1 hy).1
    omega
   rw [List.singleton_append,List.pairwise_cons]
   by_cases c2:x.no=o.no
   ·rw [if_pos c2,List.nil_append]
    exact ⟨fun y hy=>(hm y hy).2,hf⟩
   ·rw [if_neg c2,List.singleton_append,List.pairwise_cons]
    refine ⟨fun y hy => ?_,fun y hy=>(hm y hy).1,hf⟩
    rcases List.mem_cons.1 hy with rfl | hy
    ·omega
    ·exact (hm y hy).2
  ·rw [if_neg (fun h=>c h.2),List.nil_append,if_neg oZ,decide_eq_false c,Bool.false_or,List.singleton_append,List.pairwise_cons]
   refine ⟨fun y hy => ?_,EB h2⟩
   rcases kO hy with rfl | hy
   ·omega
   ·exact h1 y hy
theorem bH.put {pm:List dv}{all:List (Int×Ob)}{l:List au}(h:bH pm all l){o:Ob}{d:au}(hn:((ec all d.no o).map (·.1)).Nodup)(hd:1<=d.no/\d.no<=112)(hi:de pm (cY o.size 1024) o)(hr:dV pm o d):bH pm (ec all d.no o) (dF d false l):=by
 refine ⟨fun k => ?_,hn,EB h.ord,fun x hx => ?_⟩
 ·rw [ic,US]
  by_cases c:(d.no:Int)=k
  ·rw [if_pos c,if_pos c]
   exact .inr ⟨o,d,rfl,rfl,hi,hr⟩
  ·rw [if_neg c,if_neg c]
   exact h.keys k
 ·rcases kO hx with rfl | hx
  ·exact hd
  ·exact h.no x hx
theorem UT {l:List au}(h:l.Pairwise fun a b=>a.no<b.no){i:Nat}{d:au}(hi:l[i]? = some d)(k:Int):ey (l.take i++l.drop (i+1)) k=if (d.no:Int)=k then none else ey l k:=by
 induction l generalizing i with
 | nil=>simp at hi
 | cons x r ih =>
  obtain ⟨h1,h2⟩:=List.pairwise_cons.1 h
  rcases i with _ | i
  ·simp only [List.getElem?_cons_zero,Option.some.injEq] at hi
   subst hi
   rw [List.take_zero,List.nil_append,List.drop_succ_cons,List.drop_zero,dU]
   by_cases c:(x.no:Int)=k
   ·rw [if_pos c]
    refine Dy fun y hy => ?_
    have:=h1 y hy
    omega
   ·rw [if_neg c,if_neg c]
  ·have jg:r[i]? = some d:=by simpa using hi
   have:=h1 d (List.mem_of_getElem? jg)
   rw [List.take_succ_cons,List.drop_succ_cons,List.cons_append,dU,dU,ih h2 jg]
   by_cases c:(x.no:Int)=k
   ·rw [if_pos c,if_pos c,if_neg oZ]
   ·rw [if_neg c,if_neg c]
theorem bH.del {pm:List dv}{all:List (Int×Ob)}{l:List au}(h:bH pm all l){i:Nat}{d:au}(hi:l[i]? = some d):bH pm (oB all d.no) (l.take i++l.drop (i+1)):=by
 refine ⟨fun k => ?_, ?_, ?_,fun x hx=>h.no x ?_⟩
 ·rw [Af,UT h.ord hi]
  by_cases c:(d.no:Int)=k
  ·rw [if_pos c,if_pos c]
   exact .inl ⟨rfl,rfl⟩
  ·rw [if_neg c,if_neg c]
   exact h.keys k
 ·unfold oB
  exact h.kn.sublist (List.filter_sublist.map _)
 ·have e:l.take i++l.drop (i+1)=l.eraseIdx i:=(List.eraseIdx_eq_take_drop_succ ..).symm
  rw [e]
  exact h.ord.sublist (List.eraseIdx_sublist ..)
 ·rcases List.mem_append.1 hx with hx | hx
  ·exact List.mem_of_mem_take hx
  ·exact List.mem_of_mem_drop hx
theorem Z3 {b x:List UInt8}{size a:Nat}(h:a+x.length<=size)(hb:b.length<=size)(j:Nat):((K0 b size a x)[j]?).getD (0:UInt8)=if a<=j/\j<a+x.length then (x[j - a]?).getD 0 else (b[j]?).getD 0:=by
 have hp:∀j:Nat,((dH size b)[j]?).getD (0:UInt8)=(b[j]?).getD 0:=fun j=>by
  unfold dH
  rw [List.take_of_length_le hb]
  by_cases c:j<b.length
  ·rw [List.getElem?_append_left c]
  ·rw [List.getElem?_append_right oZ,List.getElem?_eq_none (l:=b) oZ,List.getElem?_replicate]
   split <;> rfl
 have hl:=dQ size b
 unfold K0
 by_cases c1:j<a
 ·rw [if_neg oZ,List.append_assoc,List.getElem?_append_left (by rw [List.length_take];omega),List.getElem?_take,if_pos c1,hp]
 ·by_cases c2:j<a+x.length
  ·rw [if_pos oZ,List.getElem?_append_left (by rw [List.length_append,List.length_take];omega),List.getElem?_append_right (by rw [List.length_take];omega),List.length_take,show j - min a (dH size b).length=j - a by omega]
  ·rw [if_neg oZ,List.getElem?_append_right (by rw [List.length_append,List.length_take];omega),List.length_append,List.length_take,List.getElem?_drop,<-hp j]
   congr 2
   omega
theorem dV.write {pm:List dv}{o:Ob}{d:au}(h:dV pm o d){a m:Nat}{b:List UInt8}(hb:b.length=m)(KG:a+m<=65536){cd:List (Int×List UInt8)}(hn:(cd.map (·.1)).Nodup)
  (hf:∀q,aH cd q=if cQ a m q then some (jG (o.byte (jW pm)) a b (max o.size (a+m)) q.toNat) else aH o.fresh q) (v:Value) :
  dV pm { o with size:=max o.size (a+m),fresh:=cd,clean:=false } { d with b:=K0 d.b (max d.b.length (a+m)) a b,gC:=p7 d a m,v:=v }:=by
 have hs:=h.size
 have bx:=h.sz
 have FW:(K0 d.b (max d.b.length (a+m)) a b).length=max d.b.length (a+m):=IS oZ
 refine ⟨h.us,by rw [FW,hs],by simp only;omega,fun e he => ?_,fun j => ?_,fun i hi => ?_,fun i hi ht => ?_⟩
 ·have hk:=eU hn he
  rw [hf] at hk
  split at hk
  ·rename_i ht
   have ht:=of_decide_eq_true ht
   have:=Option.some.inj hk
   rw [<-this,iC]
   unfold aT
   omega
  ·exact h.fp _ (aI hk)
 ·rw [Z3 oZ oZ]
  have hold:=h.byte j
  have hq:((j / 1024:Nat):Int).toNat=j / 1024:=Int.toNat_natCast _
  unfold Ob.byte
  rw [df]
  simp only [hf,hq]
  by_cases ht:cQ a m ((j / 1024:Nat):Int)=true
  ·have ht':=of_decide_eq_true ht
   rw [if_pos ht]
   simp only
   unfold jG
   by_cases hl:j % 1024<aT (max o.size (a+m)) (j / 1024)
   ·rw [List.getElem?_map,List.getElem?_range' hl]
    simp only [Option.map_some,Option.getD_some]
    unfold wrB
    rw [show j / 1024*1024+1*(j % 1024)=j by omega,hold]
   ·rw [List.getElem?_eq_none (by rw [List.length_map,List.length_range'];omega)]
    unfold aT at hl
    rw [if_neg oZ,List.getElem?_eq_none oZ]
  ·rw [if_neg ht]
   have Bf:¬(a<=j/\j<a+b.length):=fun c=>ht (decide_eq_true oZ)
   rw [if_neg Bf,<-hold]
   unfold Ob.byte
   rw [df]
 ·simp only
  rw [hf]
  unfold p7
  by_cases ht:cQ a m (i:Int)=true
  ·rw [if_pos ht,ht];simp
  ·rw [if_neg ht,h.gC i hi];simp [ht]
 ·unfold p7 at ht
  simp only [Bool.or_eq_false_iff] at ht
  exact h.born i hi ht.1
theorem de.write {pm:List dv}{o:Ob}(h:de pm (cY o.size 1024) o)(bx:o.size<=65536){a m:Nat}{b:List UInt8}{old:Nat->UInt8}(KG:a+m<=65536){cd:List (Int×List UInt8)}(hn:(cd.map (·.1)).Nodup)
  (hf:∀q,aH cd q=if cQ a m q then some (jG old a b (max o.size (a+m)) q.toNat) else aH o.fresh q) :
  de pm (cY (max o.size (a+m)) 1024) { o with size:=max o.size (a+m),fresh:=cd,clean:=false }:=by
 have hN:cY o.size 1024<=cY (max o.size (a+m)) 1024:=by unfold cY;omega
 refine ⟨h.ptr,fun e he => ?_,hn,Nat.le_trans h.pl (by unfold Hj cY;unfold cY at hN;omega),fun i hi=>h.pz i oZ,h.il,by unfold cY;omega,h.rt,fun hc=>by cases hc⟩
 have hk:=eU hn he
 rw [hf] at hk
 split at hk
 ·rename_i ht
  have ht:=of_decide_eq_true ht
  have:=Option.some.inj hk
  rw [<-this,iC]
  unfold aT cY
  omega
 ·obtain ⟨h1,h2,h3⟩:=h.fk _ (aI hk)
  exact ⟨h1,by omega,h3⟩
theorem Hr {β:Type}{L:List (Int×β)}(h:∀q,aH L q=none):L=[]:=by
 cases L with
 | nil=>rfl
 | cons e r =>
  have:=h e.1
  rw [show e=(e.1,e.2) from rfl,dg] at this
  cases this
theorem de.same {pm:List dv}{N:Nat}{o:Ob}(h:de pm N o){cd:List (Int×List UInt8)}(hn:(cd.map (·.1)).Nodup)(hf:∀q,aH cd q=aH o.fresh q):de pm N { o with fresh:=cd }:=by
 refine ⟨h.ptr,fun e he => ?_,hn,h.pl,h.pz,h.il,h.sz,h.rt,fun hc => ?_⟩
 ·have hk:=eU hn he
  rw [hf] at hk
  exact h.fk _ (aI hk)
 ·obtain ⟨c1,c2,c3,c4⟩:=h.cl hc
  exact ⟨Hr fun q=>by rw [hf,c1];rfl,⟨c2.ok,c2.top⟩,c3,c4⟩
theorem dV.same {pm:List dv}{o:Ob}{d:au}(h:dV pm o d){cd:List (Int×List UInt8)}(hn:(cd.map (·.1)).Nodup)(hf:∀q,aH cd q=aH o.fresh q)(k:Nat)(v:Value):dV pm { o with fresh:=cd } { d with no:=k,v:=v }:=by
 refine ⟨h.us,h.size,h.sz,fun e he => ?_,fun j => ?_,fun i hi => ?_,h.born⟩
 ·have hk:=eU hn he
  rw [hf] at hk
  exact h.fp _ (aI hk)
 ·rw [<-h.byte j]
  unfold Ob.byte
  rw [df,df,hf]
 ·rw [hf];exact h.gC i hi
theorem EC {b:List UInt8}{z:Nat}(j:Nat):((dH z b)[j]?).getD (0:UInt8)=if j<z then (b[j]?).getD 0 else 0:=by
 unfold dH
 by_cases c:j<z
 ·rw [if_pos c]
  by_cases c2:j<b.length
  ·rw [List.getElem?_append_left (by rw [List.length_take];omega),List.getElem?_take,if_pos c]
  ·rw [List.getElem?_append_right (by rw [List.length_take];omega),List.getElem?_eq_none (l:=b) oZ,List.getElem?_replicate]
   split <;> rfl
 ·rw [if_neg c,List.getElem?_eq_none (by rw [List.length_append,List.length_take,List.length_replicate];omega)]
  rfl
theorem dV.aeQ {pm:List dv}{o:Ob}{d:au}(h:dV pm o d){z:Nat}(hz:z<o.size){cd:List (Int×List UInt8)}(hf:∀q,aH cd q=jy (jW pm) o z q)(j:Nat) :
  ({ o with size:=z,ay:=o.ay.take (aW z),fresh:=cd,clean:=false }:Ob).byte (jW pm) j=((dH z d.b)[j]?).getD 0:=by
 rw [EC,<-h.byte j]
 have sV:∀i,cB (o.ay.take (aW z)) i=if i<aW z then cB o.ay i else ah:=fun i=>by
  unfold cB
  rw [List.getElem?_take]
  split <;> rfl
 unfold Ob.byte
 rw [df,df]
 simp only [hf,sV]
 unfold jy
 by_cases c:j / 1024<aW z
 ·rw [if_pos (show ((j / 1024:Nat):Int)<aW z by omega)]
  by_cases c2:0<z % 1024/\((j / 1024:Nat):Int)=(z / 1024:Nat)
  ·rw [if_pos c2]
   simp only
   have e:j / 1024=z / 1024:=by omega
   rw [List.getElem?_take,<-e,Ob.nu]
   by_cases c3:j % 1024<z % 1024
   ·rw [if_pos c3,if_pos oZ]
    unfold Ob.l8
    rw [List.getElem?_map,List.getElem?_range' (by unfold aT;omega)]
    simp only [Option.map_some,Option.getD_some]
    rw [show j / 1024*1024+1*(j % 1024)=j by omega]
    unfold Ob.byte
    rw [df]
   ·rw [if_neg c3,if_neg oZ];rfl
  ·rw [if_neg c2,if_pos c,if_pos (show j<z by unfold aW at c;omega)]
 ·rw [if_neg (show ¬((j / 1024:Nat):Int)<aW z by omega),if_neg c,if_neg (show ¬j<z by unfold aW at c;omega)]
  simp
theorem dV.cut {pm:List dv}{o:Ob}{d:au}(h:dV pm o d){z:Nat}(hz:z<o.size){cd:List (Int×List UInt8)}(hn:(cd.map (·.1)).Nodup)(hf:∀q,aH cd q=jy (jW pm) o z q)(v:Value) :
  dV pm { o with size:=z,ay:=o.ay.take (aW z),fresh:=cd,clean:=false } { xy d z 64 with b:=dH z d.b,v:=v }:=by
 have bx:=h.sz
 refine ⟨h.us,(dQ z d.b).symm,by simp only;omega,fun e he => ?_,h.aeQ hz hf,fun i hi => ?_,fun i hi ht => ?_⟩
 ·have hk:=eU hn he
  rw [hf] at hk
  unfold jy at hk
  split at hk
  ·split at hk
   ·rename_i c c2
    rw [<-Option.some.inj hk,List.length_take,Ob.nu,Ob.ns]
    unfold aT
    omega
   ·exact h.fp _ (aI hk)
  ·cases hk
 ·simp only [xy]
  rw [hf,if_pos hi]
  unfold jy
  by_cases c:(i:Int)<aW z
  ·rw [if_pos c,if_neg (show ¬z<=1024*i by unfold aW at c;omega)]
   by_cases c2:0<z % 1024/\(i:Int)=(z / 1024:Nat)
   ·rw [if_pos c2,if_pos (show z<1024*i+1024 by omega)];rfl
   ·rw [if_neg c2,if_neg (show ¬z<1024*i+1024 by unfold aW at c;omega)]
    exact h.gC i hi
  ·rw [if_neg c,if_pos (show z<=1024*i by unfold aW at c;omega)];rfl
 ·simp only [xy] at ht ⊢
  rw [if_pos hi] at ht
  have sV:cB (o.ay.take (aW z)) i=if i<aW z then cB o.ay i else ah:=by
   unfold cB
   rw [List.getElem?_take]
   split <;> rfl
  rw [sV]
  by_cases c:i<aW z
  ·have c1:¬z<=1024*i:=by unfold aW at c;omega
   rw [if_neg c1] at ht
   rw [if_pos c,if_neg (fun x=>c1 x.2)]
   split at ht
   ·cases ht
   ·exact h.born i hi ht
  ·rw [if_neg c,if_pos ⟨hi,by unfold aW at c;omega⟩];rfl
theorem dV.grow {pm:List dv}{o:Ob}{d:au}(h:dV pm o d){z:Nat}(hz:o.size<=z)(Ic:z<=65536){cd:List (Int×List UInt8)}(hn:(cd.map (·.1)).Nodup)(hf:∀q,aH cd q=aH o.fresh q)(v:Value) :
  dV pm { o with size:=z,fresh:=cd,clean:=false } { d with b:=dH z d.b,v:=v }:=by
 have hs:=h.size
 refine ⟨h.us,(dQ z d.b).symm,Ic,fun e he => ?_,fun j => ?_,fun i hi => ?_,h.born⟩
 ·have hk:=eU hn he
  rw [hf] at hk
  exact h.fp _ (aI hk)
 ·rw [EC]
  have e:(if j<z then (d.b[j]?).getD 0 else 0)=(d.b[j]?).getD 0:=by
   split
   ·rfl
   ·rw [List.getElem?_eq_none oZ];rfl
  rw [e,<-h.byte j]
  unfold Ob.byte
  rw [df,df]
  simp only [hf]
 ·rw [hf];exact h.gC i hi
theorem de.cut {pm:List dv}{o:Ob}(h:de pm (cY o.size 1024) o){z:Nat}(hz:z<o.size)(bx:o.size<=65536){rd:Pt->List UInt8}{cd:List (Int×List UInt8)}(hn:(cd.map (·.1)).Nodup)(hf:∀q,aH cd q=jy rd o z q) :
  de pm (cY z 1024) { o with size:=z,ay:=o.ay.take (aW z),fresh:=cd,clean:=false }:=by
 have xP:aW z=cY z 1024:=rfl
 have sV:∀i,cB (o.ay.take (aW z)) i=if i<aW z then cB o.ay i else ah:=fun i=>by
  unfold cB
  rw [List.getElem?_take]
  split <;> rfl
 refine ⟨fun x hx=>h.ptr x (List.mem_of_mem_take hx),fun e he => ?_,hn, ?_,fun i hi => ?_,h.il,by unfold cY;omega,h.rt,fun hc=>by cases hc⟩
 ·have hk:=eU hn he
  rw [hf] at hk
  unfold jy at hk
  split at hk
  ·rename_i c
   rw [xP] at c
   split at hk
   ·rename_i c2
    refine ⟨by omega,c, ?_⟩
    rw [<-Option.some.inj hk,List.length_take]
    omega
   ·obtain ⟨h1, -,h3⟩:=h.fk _ (aI hk)
    exact ⟨h1,c,h3⟩
  ·cases hk
 ·simp only [List.length_take]
  have:=(rN (N:=cY z 1024) (by unfold cY;omega)).2
  omega
 ·simp only [sV]
  rw [if_neg (by rw [xP];omega)]
theorem de.grow {pm:List dv}{o:Ob}(h:de pm (cY o.size 1024) o){z:Nat}(hz:o.size<=z)(Ic:z<=65536){cd:List (Int×List UInt8)}(hn:(cd.map (·.1)).Nodup)(hf:∀q,aH cd q=aH o.fresh q):de pm (cY z 1024) { o with size:=z,fresh:=cd,clean:=false }:=by
 have hN:cY o.size 1024<=cY z 1024:=by unfold cY;omega
 refine ⟨h.ptr,fun e he => ?_,hn,Nat.le_trans h.pl (by unfold Hj cY;unfold cY at hN;omega),fun i hi=>h.pz i oZ,h.il,by unfold cY;omega,h.rt,fun hc=>by cases hc⟩
 have hk:=eU hn he
 rw [hf] at hk
 obtain ⟨h1,h2,h3⟩:=h.fk _ (aI hk)
 exact ⟨h1,by omega,h3⟩
theorem QP (pm:List dv):de pm (cY bB.size 1024) bB:=by
 refine ⟨(fun x hx=>by cases hx),(fun e he=>by cases he),List.nodup_nil,Nat.zero_le _,fun i _=>by simp [cB,bB],Nat.zero_le _,by decide,⟨rfl,by refine ⟨?_, ?_, ?_, ?_, ?_, ?_, ?_, ?_, ?_⟩ <;> decide⟩,fun hc=>by cases hc⟩
theorem Lp (pm:List dv)(k:Nat):dV pm bB (GZ k):=by
 refine ⟨rfl,rfl,Nat.zero_le _,(fun e he=>by cases he),fun j => ?_,fun i _=>rfl,fun i _ _=>by simp [cB,bB,GZ,ah]⟩
 unfold Ob.byte
 rw [df]
 simp [bB,GZ,cB,aH]
def UU:Ob:=⟨false,8064,ah,[],[],[],true⟩
theorem I4 (hz:∀x∈fH (List.replicate 112 eu),x=0):wG [] [] UU []:=by
 have aQ:fy ah=0/\ah.Ok:=⟨rfl,by refine ⟨?_, ?_, ?_, ?_, ?_, ?_, ?_, ?_, ?_⟩ <;> decide⟩
 refine ⟨⟨fun k=>.inl ⟨rfl,rfl⟩,List.nodup_nil,List.Pairwise.nil,(fun _ h=>by cases h)⟩,(fun k o h=>by cases h),rfl,⟨(fun x hx=>by cases hx),(fun e he=>by cases he),List.nodup_nil,Nat.zero_le _,fun i _=>by simp [cB,UU],Nat.zero_le _,by decide,aQ,fun _=>⟨rfl,⟨aQ,.inl ⟨rfl,fun i=>by simp [cB,UU],(fun x hx=>by cases hx)⟩⟩,Nat.zero_le _,(fun x hx=>by cases hx)⟩⟩,fun j => ?_⟩
 rw [sC]
 have h1:UU.byte (jW []) j=0:=by
  unfold Ob.byte
  rw [df]
  simp [UU,cB,aH]
 rw [h1]
 cases h:(fH (List.replicate 112 eu))[j]? with
 | none=>rfl
 | some x=>rw [hz x (List.mem_of_getElem? h)];rfl
theorem ED:∀x∈fH (List.replicate 112 eu),x=0:=fun x hx=>by
 obtain ⟨s,hs,hx⟩:=List.mem_flatMap.1 hx
 rw [(List.mem_replicate.1 hs).2] at hx
 have h:(eX eu).all (fun x=>x==0)=true:=by decide +kernel
 exact by simpa using List.all_eq_true.1 h x hx
theorem QQ {d d':au}(e:d'.nv=d.nv):d'.no=d.no/\d'.b=d.b/\d'.born=d.born/\d'.gC=d.gC:=⟨show d'.nv.no=d.nv.no by rw [e],show d'.nv.b=d.nv.b by rw [e],show d'.nv.born=d.nv.born by rw [e],show d'.nv.gC=d.nv.gC by rw [e]⟩
theorem Z4 {l l':List au}(e:l'.map au.nv=l.map au.nv)(k:Int):(ey l' k).map au.nv=(ey l k).map au.nv:=by
 induction l generalizing l' with
 | nil =>
  obtain rfl:l'=[]:=by simpa using e
  rfl
 | cons x r ih =>
  cases l' with
  | nil=>simp at e
  | cons y s =>
   simp only [List.map_cons,List.cons.injEq] at e
   obtain ⟨h1,h2⟩:=e
   rw [dU,dU,(QQ h1).1]
   split
   ·simp only [Option.map_some,h1]
   ·exact ih h2
theorem dV.nv {pm:List dv}{o:Ob}{d d':au}(h:dV pm o d)(e:d'.nv=d.nv):dV pm o d':=by
 obtain ⟨-,h2,h3,h4⟩:=QQ e
 exact ⟨h.us,by rw [h2];exact h.size,h.sz,h.fp,fun j=>by rw [h2];exact h.byte j,fun i hi=>by rw [h4];exact h.gC i hi,fun i hi ht=>by rw [h3];exact h.born i hi (by rw [<-h4];exact ht)⟩
theorem bH.nv {pm:List dv}{all:List (Int×Ob)}{l l':List au}(h:bH pm all l)(e:l'.map au.nv=l.map au.nv):bH pm all l':=by
 refine ⟨fun k => ?_,h.kn, ?_,fun d hd => ?_⟩
 ·have hk:=Z4 e k
  rcases h.keys k with ⟨h1,h2⟩ | ⟨o,d,h1,h2,h3,h4⟩
  ·rw [h2] at hk
   exact .inl ⟨h1,by simpa using hk⟩
  ·rw [h2] at hk
   cases hl:ey l' k with
   | none=>rw [hl] at hk;simp at hk
   | some d' =>
    rw [hl] at hk
    exact .inr ⟨o,d',h1,rfl,h3,h4.nv (Option.some.inj hk)⟩
 ·have h1:(l.map au.nv).Pairwise fun a b=>a.no<b.no:=List.pairwise_map.2 h.ord
  rw [<-e] at h1
  have h2:=List.pairwise_map.1 h1
  exact h2
 ·have h1:d.nv∈l.map au.nv:=by rw [<-e];exact List.mem_map_of_mem hd
  obtain ⟨d',h2,h3⟩:=List.mem_map.1 h1
  rw [<-(QQ h3).1]
  exact h.no d' h2
theorem wG.nv {pm:List dv}{cs:List (Int×Ob)}{mo:Ob}{l l':List au}(h:wG pm cs mo l)(e:l'.map au.nv=l.map au.nv):wG pm cs mo l':=⟨h.rel.nv e,h.cl,h.mc,h.mi,h.JE⟩
theorem EE {l l':List au}(e:l'.map au.nv=l.map au.nv):aS l'=aS l:=by
 have:∀l:List au,aS l=((l.map au.nv).map fun o=>cost o.b.length).sum:=fun l=>by rw [List.map_map];rfl
 rw [this,this,e]
theorem ed (x:au)(r:List au):aS (x :: r)=cost x.b.length+aS r:=rfl
theorem wJ (x:au)(r:List au)(k:Int):iB (x :: r) k=if (x.no:Int)=k then cost x.b.length else iB r k:=by
 unfold iB
 rw [dU]
 split
 ·rename_i h;split at h <;> simp_all
 ·rename_i h;split at h <;> simp_all
theorem yH (k:Nat):∀l:List au,aS (l.filter fun x=>decide (x.no≠k))+iB l k<=aS l
 | []=>by simp [aS,iB,ey]
 | x :: r=>by
  have ih:=yH k r
  rw [wJ,ed]
  by_cases c:x.no=k
  ·rw [List.filter_cons_of_neg (by simp [c]),if_pos oZ];omega
  ·rw [List.filter_cons_of_pos (by simp [c]),if_neg oZ,ed];omega
theorem yI (o:au):∀l:List au,aS (dF o false l)+iB l o.no<=aS l+cost o.b.length
 | []=>by simp [dF,aS,iB,ey]
 | x :: r=>by
  have ih:=yI o r
  have hf:=yH o.no r
  rw [dF,wJ,ed]
  by_cases c:o.no<=x.no
  ·rw [if_pos ⟨rfl,c⟩,decide_eq_true c,Bool.false_or,rQ,List.singleton_append,ed]
   by_cases c2:x.no=o.no
   ·rw [if_pos c2,if_pos oZ,List.nil_append];omega
   ·rw [if_neg c2,if_neg oZ,List.singleton_append,ed];omega
  ·rw [if_neg (fun h=>c h.2),decide_eq_false c,Bool.false_or,List.nil_append,if_neg oZ,if_neg oZ,List.singleton_append,ed];omega
theorem Lq {l:List au}{o:au}{k:Int}{z room:Nat}(h:cy l k z room=true)(hk:(o.no:Int)=k)(hz:o.b.length=z):aS (dF o false l)<=room:=by
 have h1:=yI o l
 rw [hz,hk] at h1
 have h2:=of_decide_eq_true h
 omega
theorem yJ:∀(l:List au) (i:Nat),aS (l.take i++l.drop (i+1))<=aS l
 | [],i=>by simp [aS]
 | x :: r,0=>by rw [List.take_zero,List.nil_append,List.drop_succ_cons,List.drop_zero,ed];omega
 | x :: r,i+1=>by
  have ih:=yJ r i
  rw [List.take_succ_cons,List.drop_succ_cons,List.cons_append,ed,ed];omega
theorem wK (T:Nat)(l:List au):aS (l.map (lJ T))=aS l:=by
 unfold aS
 rw [List.map_map]
 congr 1
 refine List.map_congr_left fun d _ => ?_
 simp only [Function.comp]
 rw [show (lJ T d).b=d.b from (dq _ d 64).2.1]
theorem QR:∀(l:List Nat) (R:Rk),R.off=false->∀w∈(R.run (l.map .f)).ws,w∈R.ws/\w.d∉l
 | [],R,_,w,h=>⟨h,by simp⟩
 | d :: l,R,ho,w,h=>by
  rw [List.map_cons,Rk.eY] at h
  have e:R.ev (.f d)={ R with ds:=R.ds.modify d fun x=>{ x with fj:=x.now },ws:=R.ws.filter fun w=>w.d != d }:=by
   show (if R.off then R else _)=_
   rw [if_neg (by simp [ho])]
  obtain ⟨h1,h2⟩:=QR l (R.ev (.f d)) (by rw [e];exact ho) w h
  rw [e] at h1
  obtain ⟨h3,h4⟩:=List.mem_filter.1 h1
  exact ⟨h3,by rw [List.mem_cons];exact fun hc=>hc.elim (fun e=>by simp [e] at h4) h2⟩
theorem qu {R:Rk}{ls:List (Option Lv)}(hI:wm ls)(hR:(R.run (iF ls)).Ok)(hd:(R.run (iF ls)).ds.length=ls.length)(ho:R.off=false):(R.run (iF ls)).ws=[]:=by
 rw [G5 hI] at *
 refine List.eq_nil_iff_forall_not_mem.2 fun w hw => ?_
 obtain ⟨h1,h2⟩:=QR _ R ho w hw
 have h3:=(hR.ws w hw).1
 refine h2 (List.mem_range.2 ?_)
 unfold Rk.size at h3
 rcases Nat.lt_or_ge w.d ls.length with c | c
 ·omega
 ·rw [List.getElem?_eq_none oZ] at h3;simp at h3
theorem UW {R:Rk}(hR:R.Ok)(i a:Nat):(R.now i a).length=128\/R.now i a=[]:=by
 unfold Rk.now
 cases h:R.ds[i]? with
 | none=>exact .inr rfl
 | some d =>
  simp only [Option.bind_some]
  cases h2:d.now[a]? with
  | none=>exact .inr rfl
  | some s=>exact .inl ((hR.sec d (List.mem_of_getElem? h)).2 s (List.mem_of_getElem? h2))
theorem QS:gA []=false:=by
 unfold gA
 rw [show decide (1<=fo []/\fo []<=281474976710656)=false from decide_eq_false fun h=>by
  have e:fo []=0:=by decide
  omega,Bool.and_false]
theorem QT {R:Rk}(hR:R.Ok)(ls:List (Option Lv))(k:Nat):(tD R ls k).length=88:=by
 have:∀(l:List (Option Lv)) (b:Nat×List UInt8),b.2.length=88->(l.foldl (fun b o=>match o with | some x=>wg b (R.now x.i (18+k)) | none=>b) b).2.length=88:=by
  intro l
  induction l with
  | nil=>intro b hb;exact hb
  | cons o l ih =>
   intro b hb
   rw [List.foldl_cons]
   refine ih _ ?_
   rcases o with _ | x
   ·exact hb
   ·simp only [wg]
    split
    ·rename_i h
     rcases UW hR x.i (18+k) with h1 | h1
     ·exact zM h1
     ·rw [h1,QS] at h;simp at h
    ·exact hb
 unfold tD
 split
 ·simp
 ·unfold pZ;exact this _ _ (by simp)
theorem QU {tp:Tp}(h:tp.nL){k:Nat}(hk:k<tp.leaves.toNat):uN ⟨11,[tp],0,k⟩=0/\eR.Ok ⟨11,[tp],0,k⟩:=by
 obtain ⟨h1,h2,h3,h4⟩:=h
 have hm:tp.made:=⟨h1,by omega,by omega⟩
 refine ⟨if_pos ⟨by simp,by simp,by simp,by simp,by simp, ?_,fun t ht=>by rw [List.mem_singleton.1 ht];exact hm⟩,by show 11<18446744073709551616;decide,by simp,by simp only;omega,fun t ht=>by rw [List.mem_singleton.1 ht];exact ⟨by omega,by omega,by omega⟩⟩
 show (k:Int)<tp.leaves
 omega
section
variable {pr:Bool}{n:Nat}{R:Rk}{pm:List dv}{ls:List (Option Lv)}
theorem de.live {o:Ob}{N:Nat}(h:de pm N o)(hc:o.clean=true):∀x∈ej o,∃e∈pm,e.x=x:=fun x hx=>by
 obtain ⟨h1,h0⟩:=fZ.1 hx
 rcases List.mem_append.1 h1 with h1 | h1
 ·rcases h.ptr x h1 with c | c
  ·exact absurd c h0
  ·exact c
 ·rcases (h.cl hc).2.2.2 x h1 with c | c
  ·exact absurd c h0
  ·exact c
theorem wG.has {cs:List (Int×Ob)}{mo:Ob}{l:List au}(h:wG pm cs mo l){k:Int}{o:Ob}(hk:aH cs k=some o):∃d,ey l k=some d/\de pm (cY o.size 1024) o/\dV pm o d/\o.clean=true:=by
 rcases h.rel.keys k with ⟨c, -⟩ | ⟨o',d,c,c2,c3,c4⟩
 ·rw [hk] at c;cases c
 ·rw [hk] at c;cases c
  exact ⟨d,c2,c3,c4,h.cl k o hk⟩
structure Opn (pr:Bool)(n:Nat)(R:Rk)(ls:List (Option Lv))(pm:List dv)(cs:List (Int×Ob))(mo:Ob):Prop where
 root:rM R ls pr n (ff pm) mo.root
 Ql:∀x∈(fX (ff pm) mo.root).ay,x≠ah->KC R ls pr n x (jW pm x)
 so:∀s∈slotsOf cs,s.Ok
 JE:(List.range 8).flatMap ((fX (ff pm) mo.root).fN (jW pm))=fH (slotsOf cs)
 ob:∀s∈slotsOf cs,s.used=true->rM R ls pr n (ff pm) s.root
 op:OpP (bD pr ls.length n) (aN pr ls.length 1024) (AD (ff pm) (fX (ff pm) mo.root) (slotsOf cs))
theorem wG.opn (hI:wm ls)(hn:324<=n)(hw:1<=ls.length/\ls.length<=5)(hp:pr=true->3<=ls.length)(bx:∀i,i<ls.length->R.size i=n){cs:List (Int×Ob)}{mo:Ob}{l:List au}(h:wG pm cs mo l)(fY:dT pr ls.length n R pm):Opn pr n R ls pm cs mo:=by
 have hb:=h.back fY
 refine ⟨Std.ld hI hn hw hp bx fY (h.mi.cl h.mc).2.1,QO hI hn hw hp bx fY hb.mi,fun s hs=>(h.used hs).1,h.aeO fY,fun s hs hu => ?_,QN fY fun x hx => ?_⟩
 ·obtain ⟨k,o,h1,rfl⟩:=(h.used hs).2 hu
  obtain ⟨d, -,h2, -,h4⟩:=h.has h1
  exact Std.ld hI hn hw hp bx fY (h2.cl h4).2.1
 ·rcases (h.live fY x).1 hx with c | ⟨k,o,h1,c⟩
  ·exact h.mi.live h.mc x c
  ·obtain ⟨d, -,h2, -,h4⟩:=h.has h1
   exact h2.live h4 x c
end
end Go.Sl
