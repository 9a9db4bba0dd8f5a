/-
  16.
-/
import Derived.Test.YtpabnmeponmonaaGreatDoorZTopCrashes15
set_option maxRecDepth 10000
set_option maxHeartbeats 4000000
open List Go.Proofs.Tryz Go.Sl
namespace Go.Sl
def mq (pr:Bool)(w:Nat)(R:Rk)(at_:Nat)(b:List UInt8):Prop :=
 if pr then ∀(j:Nat) (s:eE),(jy w b)[j]? = some s->R.now ((at_+j) % w) (274+(at_+j) / w)=s
 else ∀i,i<w->∀(j:Nat) (s:eE),(lr b)[j]? = some s->R.now i (274+at_+j)=s
theorem V5 {R:Rk}{i a:Nat}{l:List eE}(h:∀(j:Nat) (s:eE),l[j]? = some s->R.now i (a+j)=s)(ha:a+l.length<=R.size i):R.sK i a l.length=l.flatten:=by
 unfold Rk.sK
 unfold Rk.size at ha
 cases hx:R.ds[i]? with
 | none =>
  rw [hx] at ha
  simp only [Option.map_none,Option.getD_none] at ha
  obtain rfl:l=[]:=eq_nil_of_length_eq_zero oZ
  simp
 | some d =>
  rw [hx] at ha
  simp only [Option.map_some,Option.getD_some] at ha ⊢
  congr 1
  apply ext_getElem (by rw [length_take,length_drop];omega)
  intro j h1 h2
  have:=h j l[j] (getElem?_eq_getElem h2)
  unfold Rk.now at this
  rw [hx] at this
  simp only [Option.bind_some] at this
  rw [getElem?_eq_getElem oZ,Option.getD_some] at this
  rw [getElem_take,getElem_drop]
  exact this
section
variable {pr:Bool}{ls:List (Option Lv)}{n:Nat}{R R':Rk}{at_:Nat}{b:List UInt8}
theorem ak {w:Nat}(hp:pr=true->3<=w)(b:List UInt8):(if pr then (jy w b).length else (lr b).length)=aL pr w b.length:=by
 cases pr with
 | true=>have:=hp rfl;rw [if_pos rfl,aL,if_pos rfl,qV oZ]
 | false=>rw [if_neg (by simp),aL,if_neg (by simp),iC]
theorem BK {w n x at_ N:Nat}(hx:x<N)(h:at_+N<=w*(n - 292))(hn:324<=n):274+(at_+x) / w<n - 18:=by
 have:(at_+x) / w<n - 292:=Nat.div_lt_of_lt_mul oZ
 omega
theorem RT (hI:pB ls)(hn:324<=n)(bu:∀i,i<ls.length->R.size i=n)(hf:at_+aL pr ls.length b.length<=bD pr ls.length n)(h:mq pr ls.length R at_ b):wQ pr R ls at_ b:=by
 cases pr with
 | true =>
  rw [mq,if_pos rfl] at h
  rw [wQ,if_pos rfl]
  intro j s x hj hx
  rw [(hI.at hx).1]
  exact h j s hj
 | false =>
  rw [mq,if_neg (by simp)] at h
  rw [wQ,if_neg (by simp)]
  rw [aL,if_neg (by simp),bD,if_neg (by simp)] at hf
  intro x hx
  obtain ⟨k,hk⟩:=mem_iff_getElem?.1 hx
  obtain ⟨h1,h2⟩:=hI.at hk
  rw [h1,<-iC,V5 (h k h2) (by rw [iC,bu k h2];omega),(lu b).2]
theorem Ig {w:Nat}(hn:324<=n)(hp:pr=true->3<=w)(hf:at_+aL pr w b.length<=bD pr w n)(hR:∀i,i<w->∀a,274<=a->a<n - 18->R'.now i a=R.now i a)(h:mq pr w R at_ b):mq pr w R' at_ b:=by
 have hl:=ak hp b
 cases pr with
 | true =>
  have:=hp rfl
  rw [mq,if_pos rfl] at h ⊢
  rw [if_pos rfl] at hl
  rw [bD,if_pos rfl] at hf
  intro j s hj
  have pC:=(List.getElem?_eq_some_iff.1 hj).1
  rw [hR _ (Nat.mod_lt _ oZ) _ (Nat.le_add_right _ _) (BK oZ hf hn)]
  exact h j s hj
 | false =>
  rw [mq,if_neg (by simp)] at h ⊢
  rw [if_neg (by simp)] at hl
  rw [bD,if_neg (by simp)] at hf
  intro i hi j s hj
  have pC:=(List.getElem?_eq_some_iff.1 hj).1
  rw [hR i hi _ oZ oZ]
  exact h i hi j s hj
theorem pX {w x y:Nat}(h1:x % w=y % w)(h2:x / w=y / w):x=y:=by
 have e1:=Nat.div_add_mod x w
 have e2:=Nat.div_add_mod y w
 rw [h1,h2] at e1;omega
theorem MS (hI:pB ls)(db:R.on)(hn:324<=n)(hp:pr=true->3<=ls.length)(bu:∀i,i<ls.length->R.size i=n)(hf:at_+aL pr ls.length b.length<=bD pr ls.length n):mq pr ls.length (R.run (qf pr ls at_ b)) at_ b:=by
 have hl:=ak hp b
 have hm:=fun (i a:Nat) (s:eE)=>uI hI (pr:=pr) (at_:=at_) (bs:=b) (fun h=>by have:=hp h;omega) (i:=i) (a:=a) (b:=s)
 cases pr with
 | true =>
  have:=hp rfl
  rw [mq,if_pos rfl]
  rw [if_pos rfl] at hl
  rw [bD,if_pos rfl] at hf
  intro j s hj
  have pC:=(List.getElem?_eq_some_iff.1 hj).1
  have hr:=BK (x:=j) oZ hf hn
  refine fP db (by rw [bu _ (Nat.mod_lt _ oZ)];omega) (fun b' hb => ?_) ((hm _ _ _).2 (by rw [if_pos rfl];exact ⟨j,hj,rfl,rfl⟩))
  have hb:=(hm _ _ _).1 hb
  rw [if_pos rfl] at hb
  obtain ⟨j',h1,h2,h3⟩:=hb
  have:=pX h2 oZ
  obtain rfl:j=j':=oZ
  rw [hj] at h1;exact (Option.some.inj h1).symm
 | false =>
  rw [mq,if_neg (by simp)]
  rw [if_neg (by simp)] at hl
  rw [bD,if_neg (by simp)] at hf
  intro i hi j s hj
  have pC:=(List.getElem?_eq_some_iff.1 hj).1
  refine fP db (by rw [bu _ hi];omega) (fun b' hb => ?_) ((hm _ _ _).2 (by rw [if_neg (by simp)];exact ⟨hi,j,hj,rfl⟩))
  have hb:=(hm _ _ _).1 hb
  rw [if_neg (by simp)] at hb
  obtain ⟨-,j',h1,h3⟩:=hb
  obtain rfl:j=j':=oZ
  rw [hj] at h1;exact (Option.some.inj h1).symm
theorem Ih (hI:pB ls)(hp:pr=true->3<=ls.length){at':Nat}{b':List UInt8}(hd:at_+aL pr ls.length b.length<=at'\/at'+aL pr ls.length b'.length<=at_)(h:mq pr ls.length R at_ b):mq pr ls.length (R.run (qf pr ls at' b')) at_ b:=by
 have hl:=ak hp b
 have jI:=ak hp b'
 have hm:=fun (i a:Nat) (s:eE)=>uI hI (pr:=pr) (at_:=at') (bs:=b') (fun h=>by have:=hp h;omega) (i:=i) (a:=a) (b:=s)
 cases pr with
 | true =>
  have:=hp rfl
  rw [mq,if_pos rfl] at h ⊢
  rw [if_pos rfl] at hl jI
  intro j s hj
  have pC:=(List.getElem?_eq_some_iff.1 hj).1
  rw [bI fun b2 hb => ?_]
  ·exact h j s hj
  ·have hb:=(hm _ _ _).1 hb
   rw [if_pos rfl] at hb
   obtain ⟨j',h1,h2,h3⟩:=hb
   have aaQ:=(List.getElem?_eq_some_iff.1 h1).1
   have:=pX h2 oZ
   omega
 | false =>
  rw [mq,if_neg (by simp)] at h ⊢
  rw [if_neg (by simp)] at hl jI
  intro i hi j s hj
  have pC:=(List.getElem?_eq_some_iff.1 hj).1
  rw [bI fun b2 hb => ?_]
  ·exact h i hi j s hj
  ·have hb:=(hm _ _ _).1 hb
   rw [if_neg (by simp)] at hb
   obtain ⟨-,j',h1,h3⟩:=hb
   have aaQ:=(List.getElem?_eq_some_iff.1 h1).1
   omega
theorem RU (hI:pB ls)(hn:324<=n)(hp:pr=true->3<=ls.length)(hf:at_+aL pr ls.length b.length<=bD pr ls.length n){i a:Nat}{s:eE}(h:Ev.w i a s∈qf pr ls at_ b):i<ls.length/\274<=a/\a<n - 18:=by
 have hl:=ak hp b
 have h:=(uI hI (pr:=pr) (at_:=at_) (bs:=b) (fun h=>by have:=hp h;omega)).1 h
 cases pr with
 | true =>
  have:=hp rfl
  rw [if_pos rfl] at h hl
  rw [bD,if_pos rfl] at hf
  obtain ⟨j,h1,rfl,rfl⟩:=h
  have pC:=(List.getElem?_eq_some_iff.1 h1).1
  exact ⟨Nat.mod_lt _ oZ,Nat.le_add_right _ _,BK oZ hf hn⟩
 | false =>
  rw [if_neg (by simp)] at h hl
  rw [bD,if_neg (by simp)] at hf
  obtain ⟨hi,j,h1,rfl⟩:=h
  have pC:=(List.getElem?_eq_some_iff.1 h1).1
  exact ⟨hi,by omega,by omega⟩
end
structure dg where
 x:Pt
 b:List UInt8
 g:List Pt
section
variable (pr:Bool)(w n:Nat)
structure tM (R:Rk)(e:dg):Prop where
 cJ:e.x.cJ
 ok:e.x.Ok
 top:e.x.top=0
 len:e.x.bytes=e.b.length
 bd:1<=e.b.length/\e.b.length<=1024
 at_:e.x.at_=((aM (aL pr w 1024) e.x*aL pr w 1024:Nat):Int)
 fit:(aM (aL pr w 1024) e.x+1)*aL pr w 1024<=bD pr w n
 sum:tS e.x.kind ⟨e.x.a,e.x.b,e.x.c,e.x.d⟩ e.b=true
 has:mq pr w R (aM (aL pr w 1024) e.x*aL pr w 1024) e.b
structure dv (R:Rk)(pm:List dg):Prop where
 FB:∀e∈pm,tM pr w n R e
 inj:pm.Pairwise fun e f=>aM (aL pr w 1024) e.x≠aM (aL pr w 1024) f.x
end
structure rF (n:Nat)(R R':Rk):Prop where
 on:R'.on
 now:∀i a,(a<274\/n - 18<=a)->R'.now i a=R.now i a
 pl:∀i a,R'.pl i a=R.pl i a
 size:∀i,R'.size i=R.size i
 live:∀i,R'.live i↔R.live i
theorem rF.rfl {n:Nat}{R:Rk}(h:R.on):rF n R R:=⟨h,fun _ _ _=>Eq.refl _,fun _ _=>Eq.refl _,fun _=>Eq.refl _,fun _=>Iff.rfl⟩
theorem rF.trans {n:Nat}{R S T:Rk}(h:rF n R S)(k:rF n S T):rF n R T:=⟨k.on,fun i a c=>(k.now i a c).trans (h.now i a c),fun i a=>(k.pl i a).trans (h.pl i a),fun i=>(k.size i).trans (h.size i),fun i=>(k.live i).trans (h.live i)⟩
theorem BL {α:Type}{r:α->α->Prop}{l:List α}{x:α}(h:l.Pairwise r)(k:∀y∈l,r y x):(l++[x]).Pairwise r:=by
 rw [pairwise_append]
 exact ⟨h,pairwise_singleton _ _,fun y hy z hz=>by rw [mem_singleton.1 hz];exact k y hy⟩
section
variable {pr:Bool}{w n:Nat}{R R':Rk}{pm:List dg}{e f:dg}
theorem dv.one (h:dv pr w n R pm)(he:e∈pm)(hf:f∈pm)(hx:aM (aL pr w 1024) e.x=aM (aL pr w 1024) f.x):e=f:=by
 obtain ⟨i,hi,rfl⟩:=getElem_of_mem he
 obtain ⟨j,hj,rfl⟩:=getElem_of_mem hf
 have g:=pairwise_iff_getElem.1 h.inj
 rcases Nat.lt_trichotomy i j with c | c | c
 ·exact absurd hx (g i j hi hj c)
 ·subst c;rfl
 ·exact absurd hx.symm (g j i hj hi c)
theorem tM.room (h:tM pr w n R e)(hw:1<=w/\w<=5)(hp:pr=true->3<=w):aM (aL pr w 1024) e.x*aL pr w 1024+aL pr w e.b.length<=bD pr w n:=by
 have h1:=h.fit
 rw [Nat.succ_mul] at h1
 have:=j3 (pr:=pr) (w:=w) (b:=e.b.length) hw hp h.bd.2
 omega
theorem tM.congr (h:tM pr w n R e)(hn:324<=n)(hw:1<=w/\w<=5)(hp:pr=true->3<=w)(hR:∀i,i<w->∀a,274<=a->a<n - 18->R'.now i a=R.now i a):tM pr w n R' e :=
 ⟨h.cJ,h.ok,h.top,h.len,h.bd,h.at_,h.fit,h.sum,Ig hn hp (h.room hw hp) hR h.has⟩
theorem dv.congr (h:dv pr w n R pm)(hn:324<=n)(hw:1<=w/\w<=5)(hp:pr=true->3<=w)(hR:∀i,i<w->∀a,274<=a->a<n - 18->R'.now i a=R.now i a):dv pr w n R' pm:=⟨fun e he=>(h.FB e he).congr hn hw hp hR,h.inj⟩
theorem dv.filter (h:dv pr w n R pm)(q:dg->Bool):dv pr w n R (pm.filter q):=⟨fun e he=>h.FB e (mem_filter.1 he).1,h.inj.sublist filter_sublist⟩
theorem tM.NN {ls:List (Option Lv)}(hI:pB ls)(h:tM pr ls.length n R e)(hn:324<=n)(hw:1<=ls.length/\ls.length<=5)(hp:pr=true->3<=ls.length)(bu:∀i,i<ls.length->R.size i=n):Mf R ls pr n e.x e.b:=by
 have hr:=h.room hw hp
 have ic:e.x.at_.toNat=aM (aL pr ls.length 1024) e.x*aL pr ls.length 1024:=by rw [h.at_];exact Int.toNat_natCast _
 exact ⟨h.cJ,h.ok,h.top,h.len,h.bd,by rw [h.at_];omega,h.sum,by rw [ic];exact RT hI hn bu hr h.has⟩
end
theorem MT {m k gt:Nat}{b:List UInt8}(hm:0<m):aM m (Hm (k*m) gt b 2)=k:=by
 unfold aM Hm
 simp only [Int.natCast_mul]
 rw [Int.mul_ediv_cancel _ oZ,Int.toNat_natCast]
structure NQ (pr:Bool)(n:Nat)(ls:List (Option Lv))(P:PS)(pm:List dg):Prop where
 on:P.R.on
 sz:∀i,i<ls.length->P.R.size i=n
 po:dv pr ls.length n P.R pm
 dd:∀e∈pm,aM (aL pr ls.length 1024) e.x∈P.x.D
 nd:P.x.D.Nodup
structure Grow (pr:Bool)(n gt:Nat)(ls:List (Option Lv))(P:PS)(pm:List dg)(P':PS)(nw:List dg):Prop where
 tF:NQ pr n ls P' (pm++nw)
 dat:rF n P.R P'.R
 ds:∀k∈P'.x.D,k∈P.x.D\/∃e∈nw,aM (aL pr ls.length 1024) e.x=k
 bg:∀e∈nw,e.x.bg=gt
 fr:∀e∈nw,aM (aL pr ls.length 1024) e.x∉P.x.D
 sub:∀k∈P.x.D,k∈P'.x.D
section
variable {pr:Bool}{n gt:Nat}{ls:List (Option Lv)}{P P1 P':PS}{pm n1 n2:List dg}
theorem Grow.rfl (h:NQ pr n ls P pm):Grow pr n gt ls P pm P []:=⟨by rw [append_nil];exact h,.rfl h.on,fun k hk=>.inl hk,(fun _ h=>by cases h),(fun _ h=>by cases h),fun _ h=>h⟩
theorem Grow.trans (h:Grow pr n gt ls P pm P1 n1)(k:Grow pr n gt ls P1 (pm++n1) P' n2):Grow pr n gt ls P pm P' (n1++n2):=by
 refine ⟨by rw [<-append_assoc];exact k.tF,h.dat.trans k.dat,fun x hx => ?_,fun e he=>(List.mem_append.1 he).elim (h.bg e) (k.bg e),fun e he => ?_,fun x hx=>k.sub x (h.sub x hx)⟩
 rcases k.ds x hx with hx | ⟨e,he,hx⟩
 ·rcases h.ds x hx with hx | ⟨e,he,hx⟩
  ·exact .inl hx
  ·exact .inr ⟨e,mem_append_left _ he,hx⟩
 ·exact .inr ⟨e,mem_append_right _ he,hx⟩
 ·rcases List.mem_append.1 he with he | he
  ·exact h.fr e he
  ·exact fun c=>k.fr e he (h.sub _ c)
variable (hI:pB ls)(hn:324<=n/\n<=2048)(hw:1<=ls.length/\ls.length<=5)(hp:pr=true->3<=ls.length)(eV:1<=gt/\gt<=281474976710656)
include hI hn hw hp eV
theorem j4.grow {b:List UInt8}{pt:Pt}(h:j4 pr ls n gt P b P' pt)(hs:NQ pr n ls P pm)(hb:b.length<=1024)(g:List Pt):(pt=ai/\bx b=true/\P'=P)\/(pt≠ai/\bx b=false/\Grow pr n gt ls P pm P' [⟨pt,b,g⟩]):=by
 rcases h with ⟨h1,h2,h3⟩ | ⟨h1,k,hk,jN,rfl,rfl⟩
 ·exact .inl ⟨h3,h1,h2⟩
 ·right
  have hm:=(tG pr hw hp).1
  have hz:=ir pr hw hn
  have AX:(k+1)*aL pr ls.length 1024<=bD pr ls.length n:=by
   have:(((k+1)*aL pr ls.length 1024:Nat):Int)<=(bD pr ls.length n:Nat):=by rw [Int.natCast_mul];exact jN
   omega
  have ahf:k*aL pr ls.length 1024+aL pr ls.length 1024<=bD pr ls.length n:=by rw [Nat.succ_mul] at AX;exact AX
  have MP:=j3 (pr:=pr) (w:=ls.length) (b:=b.length) hw hp hb
  have Hc:1<=b.length:=by
   cases b with
   | nil=>cases h1
   | cons _ _=>simp
  obtain ⟨p1,p2, -,p4⟩:=Rq (at_:=k*aL pr ls.length 1024) (gt:=gt) (b:=b) oZ ⟨Hc,hb⟩ eV
  have uq:=MT (m:=aL pr ls.length 1024) (k:=k) (gt:=gt) (b:=b) oZ
  have jH:=fun i a s=>RU (i:=i) (a:=a) (s:=s) (pr:=pr) (at_:=k*aL pr ls.length 1024) (b:=b) hI hn.1 hp oZ
  refine ⟨p4,h1,⟨⟨hs.on.run _,fun i hi=>by rw [Rk.bH];exact hs.sz i hi,⟨fun e he => ?_, ?_⟩,fun e he => ?_,nodup_cons.2 ⟨hk,hs.nd⟩⟩,⟨hs.on.run _,fun i a ha => ?_,fun i a=>By fun d=>Fm,fun i=>Rk.bH ..,fun i=>Rk.di ..⟩,fun j hj => ?_,fun e he => ?_,fun e he => ?_,fun j hj=>mem_cons_of_mem _ hj⟩⟩
  ·rcases List.mem_append.1 he with he | he
   ·have ho:=hs.po.FB e he
    have ey:aM (aL pr ls.length 1024) e.x≠k:=fun c=>hk (c ▸ hs.dd e he)
    have ahg:=j3 (pr:=pr) (w:=ls.length) (b:=e.b.length) hw hp ho.bd.2
    refine ⟨ho.cJ,ho.ok,ho.top,ho.len,ho.bd,ho.at_,ho.fit,ho.sum,Ih hI hp ?_ ho.has⟩
    rcases Nat.lt_or_gt_of_ne ey with c | c
    ·left
     have:=Nat.mul_le_mul_right (aL pr ls.length 1024) (show aM (aL pr ls.length 1024) e.x+1<=k from c)
     rw [Nat.succ_mul] at this;omega
    ·right
     have:=Nat.mul_le_mul_right (aL pr ls.length 1024) (show k+1<=aM (aL pr ls.length 1024) e.x from c)
     rw [Nat.succ_mul] at this;omega
   ·obtain rfl:=mem_singleton.1 he
    refine ⟨p1,p2,rfl,rfl,⟨Hc,hb⟩,by rw [uq];rfl,by rw [uq];exact AX, ?_,by rw [uq];exact MS hI hs.on hn.1 hp hs.sz oZ⟩
    exact K3 (.inr rfl) b
  ·refine BL hs.po.inj fun e he => ?_
   rw [uq]
   exact fun c=>hk (c ▸ hs.dd e he)
  ·rcases List.mem_append.1 he with he | he
   ·exact mem_cons_of_mem _ (hs.dd e he)
   ·rw [mem_singleton.1 he,uq];exact mem_cons_self ..
  ·exact bI fun s Nt=>by have:=jH i a s Nt;omega
  ·rcases List.mem_cons.1 hj with rfl | hj
   ·exact .inr ⟨_,mem_singleton.2 rfl,uq⟩
   ·exact .inl hj
  ·rw [mem_singleton.1 he];rfl
  ·rw [mem_singleton.1 he,uq];exact hk
end
def cY (l:List Pt)(i:Nat):Pt:=(l[i]?).getD ai
theorem V6 (l:List Pt)(k i:Nat):cY (pT l k) i=cY l i:=by
 unfold cY pT
 by_cases c:i<l.length
 ·rw [getElem?_append_left c]
 ·rw [getElem?_append_right oZ,getElem?_replicate,getElem?_eq_none oZ]
  split <;> rfl
theorem V7 {l:List Pt}{k:Nat}(p:Pt)(i:Nat)(h:k<l.length):cY (l.set k p) i=if i=k then p else cY l i:=by
 unfold cY
 by_cases c:i=k
 ·subst c;rw [if_pos rfl,getElem?_set_self h];rfl
 ·rw [if_neg c,getElem?_set_ne (fun e=>c e.symm)]
theorem mu {l:List Pt}{i:Nat}:cY l i=ai\/cY l i∈l:=by
 unfold cY
 cases h:l[i]? with
 | none=>exact .inl rfl
 | some x=>exact .inr (mem_of_getElem? h)
theorem Ii {l:List Pt}{x:Pt}(h:x∈l):∃i,i<l.length/\cY l i=x:=by
 obtain ⟨i,hi,rfl⟩:=getElem_of_mem h
 exact ⟨i,hi,by unfold cY;rw [getElem?_eq_getElem hi];rfl⟩
theorem iX {l:List Pt}{i:Nat}(h:l.length<=i):cY l i=ai:=by unfold cY;rw [getElem?_eq_none h];rfl
theorem FC (l:List Pt)(x:Pt)(i:Nat):cY (l++[x]) i=if i=l.length then x else cY l i:=by
 unfold cY
 by_cases c:i<l.length
 ·rw [getElem?_append_left c,if_neg oZ]
 ·by_cases d:i=l.length
  ·subst d;rw [if_pos rfl];simp
  ·rw [if_neg d,getElem?_append_right oZ,getElem?_eq_none (by simp;omega),getElem?_eq_none oZ]
theorem xy:dB ai=replicate 64 0:=by decide
theorem FD {x:Pt}(h:fK x=0)(ho:x.Ok)(hb:∀y∈dB x,y=0):x=ai:=by
 have e:dB x=dB ai:=by
  rw [xy,eq_replicate_iff]
  exact ⟨bc x,hb⟩
 have e1:=pI h ho
 rw [e,pI (by simp [fK]) dK] at e1
 exact e1.symm
theorem xz {l:List Pt}(h:∀x∈l,fK x=0/\x.Ok):bx (fL l)=true↔∀x∈l,x=ai:=by
 rw [fO]
 constructor
 ·intro hb x hx
  exact FD (h x hx).1 (h x hx).2 fun y hy=>hb y (mem_flatMap.2 ⟨x,hx,hy⟩)
 ·intro hz y hy
  obtain ⟨x,hx,hy⟩:=mem_flatMap.1 hy
  rw [hz x hx,xy] at hy
  exact eq_of_mem_replicate hy
theorem iF (b:List UInt8):bx (ei b)=bx b:=by
 cases h:bx b with
 | true=>rw [Ef h];rfl
 | false=>rw [nu h];exact h
structure Std (pm:List dg)(o:Ob):Prop where
 ok:fK o.root=0/\o.root.Ok
 top:(o.root=ai/\(∀i,cY o.aA i=ai)/\∀x∈o.index,x=ai) \/
  (o.root≠ai/\∃lv:List Pt,o.index=lv++[o.root]/\1<=lv.length/\lv.length<=4/\o.aA.length<=16*lv.length/\(∃e∈pm,e.x=o.root/\e.b=fL lv/\e.g=lv)/\(∀y∈lv,fK y=0/\y.Ok) /\
   ∀j,j<lv.length->(cY lv j=ai/\∀i,i<16->cY o.aA (16*j+i)=ai)\/(cY lv j≠ai/\∃e∈pm,e.x=cY lv j/\e.b=fL e.g/\1<=e.g.length/\e.g.length<=16/\(j+1<lv.length->e.g.length=16)/\(∀y∈e.g,fK y=0/\y.Ok)/\∀i,i<16->cY e.g i=cY o.aA (16*j+i)))
theorem Std.mono {pm fD:List dg}{o:Ob}(h:Std pm o)(hs:∀e∈pm,e.x∈o.index->e∈fD):Std fD o:=by
 refine ⟨h.ok, ?_⟩
 rcases h.top with h | ⟨h1,lv,h2,h3,h4,h5,⟨e,he,e1,e2,e3⟩,h6,h7⟩
 ·exact .inl h
 ·refine .inr ⟨h1,lv,h2,h3,h4,h5,⟨e,hs e he (by rw [e1,h2];simp),e1,e2,e3⟩,h6,fun j hj => ?_⟩
  rcases h7 j hj with h | ⟨g1,e,he,g2,g3⟩
  ·exact .inl h
  ·refine .inr ⟨g1,e,hs e he ?_,g2,g3⟩
   rw [g2,h2]
   rcases mu (l:=lv) (i:=j) with c | c
   ·exact absurd c g1
   ·exact mem_append_left _ c
section
variable {pr:Bool}{n gt:Nat}{ls:List (Option Lv)}{P P':PS}{pm:List dg}
variable (hI:pB ls)(hn:324<=n/\n<=2048)(hw:1<=ls.length/\ls.length<=5)(hp:pr=true->3<=ls.length)(eV:1<=gt/\gt<=281474976710656)
include hI hn hw hp eV
theorem gQ.grow {bs:List (List UInt8)}{ps:List Pt}(h:gQ pr ls n gt P bs P' ps)(hs:NQ pr n ls P pm)(hb:∀b∈bs,b.length<=1024)(gs:Nat->List Pt) :
  ∃nw,Grow pr n gt ls P pm P' nw/\(∀e∈nw,e.x∈ps)/\ps.length=bs.length/\(∀x∈ps,x=ai\/∃e∈nw,e.x=x)/\∀(i:Nat) (b:List UInt8),bs[i]? = some b->(cY ps i=ai/\bx b=true)\/(cY ps i≠ai/\bx b=false/\∃e∈nw,e.x=cY ps i/\e.b=b/\e.g=gs i):=by
 induction h with
 | nil=>exact ⟨[],.rfl hs,(fun _ h=>by cases h),rfl,(fun _ h=>by cases h),(fun i b h=>by simp at h)⟩
 | @snoc bs P1 P2 ps b pt h1 h2 ih =>
  obtain ⟨nw,g1,g2,g3,g4,g5⟩:=ih fun b Ks=>hb b (mem_append_left _ Ks)
  have ic:∀(i:Nat) (b':List UInt8),(bs++[b])[i]? = some b'->(i<bs.length/\bs[i]? = some b')\/(i=ps.length/\b'=b):=fun i b' h=>by
   by_cases c:i<bs.length
   ·rw [getElem?_append_left c] at h;exact .inl ⟨c,h⟩
   ·rw [getElem?_append_right oZ] at h
    have:=(List.getElem?_eq_some_iff.1 h).1
    simp only [length_cons,length_nil] at this
    have e:i - bs.length=0:=oZ
    rw [e] at h
    simp at h
    exact .inr ⟨by omega,h.symm⟩
  rcases h2.grow hI hn hw hp eV g1.tF (hb b (by simp)) (gs ps.length) with ⟨k1,k2,rfl⟩ | ⟨k1,k2,k3⟩
  ·refine ⟨nw,g1,(fun e he=>mem_append_left _ (g2 e he)),by simp [g3],fun x hx => ?_,fun i b' h => ?_⟩
   ·rcases List.mem_append.1 hx with hx | hx
    ·exact g4 x hx
    ·rw [mem_singleton.1 hx];exact .inl k1
   ·rw [FC]
    rcases ic i b' h with ⟨c1,c2⟩ | ⟨rfl,rfl⟩
    ·rw [if_neg oZ];exact g5 i b' c2
    ·rw [if_pos rfl];exact .inl ⟨k1,k2⟩
  ·refine ⟨nw++[⟨pt,b,gs ps.length⟩],g1.trans k3,(fun e he=>(List.mem_append.1 he).elim (fun he=>mem_append_left _ (g2 e he)) fun he=>by rw [mem_singleton.1 he];simp),by simp [g3],fun x hx => ?_,fun i b' h => ?_⟩
   ·rcases List.mem_append.1 hx with hx | hx
    ·rcases g4 x hx with c | ⟨e,he,c⟩
     ·exact .inl c
     ·exact .inr ⟨e,mem_append_left _ he,c⟩
    ·rw [mem_singleton.1 hx];exact .inr ⟨_,mem_append_right _ (mem_singleton.2 rfl),rfl⟩
   ·rw [FC]
    rcases ic i b' h with ⟨c1,c2⟩ | ⟨rfl,rfl⟩
    ·rw [if_neg oZ]
     rcases g5 i b' c2 with c | ⟨c3,c4,e,he,c5⟩
     ·exact .inl c
     ·exact .inr ⟨c3,c4,e,mem_append_left _ he,c5⟩
    ·rw [if_pos rfl];exact .inr ⟨k1,k2,_,mem_append_right _ (mem_singleton.2 rfl),rfl,rfl,rfl⟩
theorem kC.grow {l idx:List Pt}{root:Pt}(h:kC pr ls n gt P P' l idx root)(hs:NQ pr n ls P pm)(hl:l.length<=64)(tL:∀x∈l,fK x=0/\x.Ok)(o:Ob) :
  ∃nw,Grow pr n gt ls P pm P' nw/\(∀e∈nw,e.x∈idx)/\Std (pm++nw) { o with root:=root,aA:=l,index:=idx }/\idx.length<=5/\idx.length<=yf l.length/\∀x∈idx,x=ai\/∃e∈nw,e.x=x:=by
 have hz:=(ir pr hw hn).2
 rcases h with ⟨rfl,rfl,rfl,rfl⟩ | ⟨Li,level,P1,h1,h2,rfl⟩
 ·exact ⟨[],.rfl hs,(fun _ h=>by cases h),⟨⟨by simp [fK],dK⟩,.inl ⟨rfl,fun i=>iX (Nat.zero_le _),fun _ h=>by cases h⟩⟩,by simp,by simp,fun _ h=>by cases h⟩
 ·obtain ⟨nw,g1,g2,g3,g4,g5⟩:=gQ.grow hI hn hw hp eV h1 hs nL fun j=>(l.drop (j*16)).take 16
  rw [oB] at g3
  have gH:1<=l.length:=length_pos_iff.2 Li
  have hnc:1<=dh l.length 16/\dh l.length 16<=4/\l.length<=16*dh l.length 16:=by unfold dh;omega
  have eF:∀j,j<dh l.length 16->16*j<l.length:=fun j hj=>by unfold dh at hj;omega
  have hov:yf l.length=dh l.length 16+1:=by unfold yf;rw [if_neg oZ]
  have Gc:∀j,j<dh l.length 16->(lh l)[j]? = some (ei (fL ((l.drop (j*16)).take 16))):=fun j hj=>by
   have hj2:j<(jV 16 l).length:=by rw [dN];exact hj
   rw [lh,getElem?_map,getElem?_eq_getElem hj2,l5];rfl
  have ng:∀j,∀x∈(l.drop (j*16)).take 16,fK x=0/\x.Ok:=fun j x hx=>tL x (mem_of_mem_drop (mem_of_mem_take hx))
  have rS:∀j i,i<16->cY ((l.drop (j*16)).take 16) i=cY l (16*j+i):=fun j i hi=>by
   unfold cY
   rw [getElem?_take,if_pos hi,getElem?_drop,Nat.mul_comm j 16]
  have acX:∀y∈level,fK y=0/\y.Ok:=fun y hy=>by
   rcases g4 y hy with rfl | ⟨e,he,rfl⟩
   ·exact ⟨by simp [fK],dK⟩
   ·have:=g1.tF.po.FB e (mem_append_right _ he)
    exact ⟨by unfold fK;split <;> first | rfl | rw [if_pos this.cJ],this.ok⟩
  have hlz:∀j,j<level.length->cY level j=ai->∀i,i<16->cY l (16*j+i)=ai:=fun j hj h0 i hi=>by
   rcases g5 j _ (Gc j oZ) with ⟨-,c⟩ | ⟨c, -⟩
   ·rw [iF,xz (ng j)] at c
    rw [<-rS j i hi]
    rcases mu (l:=(l.drop (j*16)).take 16) (i:=i) with d | d
    ·exact d
    ·exact c _ d
   ·exact absurd h0 c
  have dP:(ei (fL level)).length<=1024:=by have:=lK (fL level);rw [iP] at this;omega
  rcases h2.grow hI hn hw hp eV g1.tF dP level with ⟨rfl,k2,rfl⟩ | ⟨k1,k2,k3⟩
  ·rw [iF,xz acX] at k2
   refine ⟨nw,g1,(fun e he=>mem_append_left _ (g2 e he)),⟨⟨by simp [fK],dK⟩,.inl ⟨rfl,fun i => ?_,fun x hx => ?_⟩⟩,by simp;omega,by simp;omega,fun x hx => ?_⟩
   ·by_cases c:i<l.length
    ·have hj:i / 16<level.length:=oZ
     have h0:cY level (i / 16)=ai:=by
      rcases mu (l:=level) (i:=i / 16) with d | d
      ·exact d
      ·exact k2 _ d
     have:=hlz _ hj h0 (i % 16) (Nat.mod_lt _ oZ)
     rwa [show 16*(i / 16)+i % 16=i by omega] at this
    ·exact iX (sOZ)
   ·rcases List.mem_append.1 hx with hx | hx
    ·exact k2 x hx
    ·exact mem_singleton.1 hx
   ·rcases List.mem_append.1 hx with hx | hx
    ·exact g4 x hx
    ·exact .inl (mem_singleton.1 hx)
  ·rw [iF] at k2
   rw [nu k2] at k3
   have Tf:=k3.tF.po.FB _ (mem_append_right _ (mem_singleton.2 rfl))
   refine ⟨nw++[⟨root,fL level,level⟩],g1.trans k3,(fun e he=>(List.mem_append.1 he).elim (fun he=>mem_append_left _ (g2 e he)) fun he=>by rw [mem_singleton.1 he];simp),⟨⟨by unfold fK;split <;> first | rfl | rw [if_pos Tf.cJ],Tf.ok⟩,.inr ⟨k1,level,rfl,by omega,by omega,sOZ,⟨_,mem_append_right _ (mem_append_right _ (mem_singleton.2 rfl)),rfl,rfl,rfl⟩,acX,fun j hj => ?_⟩⟩,by simp;omega,by simp;omega,fun x hx => ?_⟩
   ·rcases g5 j _ (Gc j oZ) with ⟨c, -⟩ | ⟨c,c2,e,he,c3,c4,c5⟩
    ·exact .inl ⟨c,hlz j hj c⟩
    ·rw [iF] at c2
     rw [nu c2] at c4
     refine .inr ⟨c,e,mem_append_right _ (mem_append_left _ he),c3,by rw [c4,c5], ?_, ?_,fun hj2 => ?_,by rw [c5];exact ng j,fun i hi=>by rw [c5];exact rS j i hi⟩
     ·rw [c5,length_take,length_drop];have:=eF j oZ;omega
     ·rw [c5,length_take];omega
     ·rw [c5,length_take,length_drop];have:=eF (j+1) oZ;omega
   ·rcases List.mem_append.1 hx with hx | hx
    ·rcases g4 x hx with c | ⟨e,he,c⟩
     ·exact .inl c
     ·exact .inr ⟨e,mem_append_left _ he,c⟩
    ·rw [mem_singleton.1 hx];exact .inr ⟨_,mem_append_right _ (mem_singleton.2 rfl),rfl⟩
end
def Ij (N:Nat):Nat:=16*dh N 16
structure dw (pm:List dg)(N:Nat)(o:Ob):Prop where
 ptr:∀x∈o.aA,x=ai\/∃e∈pm,e.x=x
 fk:∀e∈o.fresh,0<=e.1/\e.1<N/\e.2.length<=1024
 fn:(o.fresh.map (·.1)).Nodup
 pl:o.aA.length<=Ij N
 pz:∀i,N<=i->cY o.aA i=ai
 il:o.index.length<=5
 sz:N<=64
 rt:fK o.root=0/\o.root.Ok
 cl:o.clean=true->o.fresh=[]/\Std pm o/\o.index.length<=yf (Ij N)/\∀x∈o.index,x=ai\/∃e∈pm,e.x=x
theorem s9 {N:Nat}(h:N<=64):Ij N<=64/\N<=Ij N:=by unfold Ij dh;omega
theorem dw.jd {pm:List dg}{N:Nat}{o:Ob}(h:dw pm N o):o.fresh.length<=N/\o.fresh.length<=64:=by
 have h1:(o.fresh.map (·.1)).length<=((List.range N).map fun (i:Nat)=>(i:Int)).length:=by
  refine fQ h.fn fun k hk => ?_
  obtain ⟨e,he,rfl⟩:=mem_map.1 hk
  have:=h.fk e he
  exact mem_map.2 ⟨e.1.toNat,by simp;omega,by omega⟩
 simp only [length_map,length_range] at h1
 have:=s9 h.sz
 omega
theorem J7 {pr:Bool}{w n:Nat}{R:Rk}{pm:List dg}(gV:dv pr w n R pm){x:Pt}(h:x=ai\/∃e∈pm,e.x=x):fK x=0/\x.Ok:=by
 rcases h with rfl | ⟨e,he,rfl⟩
 ·exact ⟨by simp [fK],dK⟩
 ·have:=gV.FB e he
  exact ⟨by unfold fK;split <;> first | rfl | rw [if_pos this.cJ],this.ok⟩
theorem dw.V8 {pr:Bool}{w n N:Nat}{R:Rk}{pm:List dg}{o:Ob}(h:dw pm N o)(gV:dv pr w n R pm):BG (Ij N) o:=by
 have h1:=s9 h.sz
 exact ⟨fun e he=>by have:=h.fk e he;omega,h.jd.2,h.pl,fun x hx=>J7 gV (h.ptr x hx),h.il,h.rt⟩
structure uc (pm nw:List dg)(N:Nat)(o o':Ob):Prop where
 used:o'.used=o.used
 size:o'.size=o.size
 clean:o'.clean=true
 dr:∀i:Nat,aJ o.fresh (i:Int)=none->cY o'.aA i=cY o.aA i
 put:∀(i:Nat) (b:List UInt8),aJ o.fresh (i:Int)=some b->(cY o'.aA i=ai/\bx b=true)\/(cY o'.aA i≠ai/\bx b=false/\∃e∈nw,e.x=cY o'.aA i/\e.b=b)
 To:dw (pm++nw) N o'
theorem Std.app {pm nw:List dg}{o:Ob}(h:Std pm o):Std (pm++nw) o:=h.mono fun _ he _=>mem_append_left _ he
theorem dw.app {pm nw:List dg}{N:Nat}{o:Ob}(h:dw pm N o):dw (pm++nw) N o:=by
 have hm:∀x:Pt,(x=ai\/∃e∈pm,e.x=x)->x=ai\/∃e∈pm++nw,e.x=x:=fun x c=>by
  rcases c with c | ⟨e,he,c⟩
  ·exact .inl c
  ·exact .inr ⟨e,mem_append_left _ he,c⟩
 exact ⟨fun x hx=>hm x (h.ptr x hx),h.fk,h.fn,h.pl,h.pz,h.il,h.sz,h.rt,fun c=>⟨(h.cl c).1,(h.cl c).2.1.app,(h.cl c).2.2.1,fun x hx=>hm x ((h.cl c).2.2.2 x hx)⟩⟩
theorem uc.app {pm n1 n2:List dg}{N:Nat}{o o':Ob}(h:uc pm n1 N o o'):uc pm (n1++n2) N o o':=by
 refine ⟨h.used,h.size,h.clean,h.dr,fun i b hb => ?_,by rw [<-append_assoc];exact h.To.app⟩
 rcases h.put i b hb with c | ⟨c1,c2,e,he,c3⟩
 ·exact .inl c
 ·exact .inr ⟨c1,c2,e,mem_append_left _ he,c3⟩
theorem uc.pre {pm n1 n2:List dg}{N:Nat}{o o':Ob}(h:uc (pm++n1) n2 N o o'):uc pm (n1++n2) N o o':=by
 refine ⟨h.used,h.size,h.clean,h.dr,fun i b hb => ?_,by rw [<-append_assoc];exact h.To⟩
 rcases h.put i b hb with c | ⟨c1,c2,e,he,c3⟩
 ·exact .inl c
 ·exact .inr ⟨c1,c2,e,mem_append_right _ he,c3⟩
section
variable {pr:Bool}{n gt:Nat}{ls:List (Option Lv)}{P P':PS}{pm:List dg}
variable (hI:pB ls)(hn:324<=n/\n<=2048)(hw:1<=ls.length/\ls.length<=5)(hp:pr=true->3<=ls.length)(eV:1<=gt/\gt<=281474976710656)
include hI hn hw hp eV
theorem Fq.grow {fresh:List (Int×List UInt8)}{l0 l1:List Pt}{ks:List Int}(h:Fq pr ls n gt fresh P l0 ks P' l1)(hs:NQ pr n ls P pm)(hf:∀e∈fresh,0<=e.1/\e.2.length<=1024)(Gi:ks.Nodup) :
  ∃nw,Grow pr n gt ls P pm P' nw/\(∀e∈nw,∃k∈ks,e.x=cY l1 k.toNat)/\(∀i:Nat,(i:Int)∉ks->cY l1 i=cY l0 i)/\(∀k∈ks,∃b,aJ fresh k=some b/\((cY l1 k.toNat=ai/\bx b=true)\/(cY l1 k.toNat≠ai/\bx b=false/\∃e∈nw,e.x=cY l1 k.toNat/\e.b=b)))/\∀x∈l1,x=ai\/x∈l0\/∃e∈nw,e.x=x:=by
 induction h with
 | nil=>exact ⟨[],.rfl hs,(fun _ h=>by cases h),(fun _ _=>rfl),(fun _ h=>by cases h),(fun x hx=>.inr (.inl hx))⟩
 | @snoc ks P1 P2 l1 k b pt h1 h2 h3 ih =>
  rw [nodup_append] at Gi
  obtain ⟨nw,g1,g0,g2,g3,g4⟩:=ih Gi.1
  have hb:=hf _ (aI h2)
  have AX:(k.toNat:Int)=k:=by have:=hb.1;simp only at this;omega
  have hlen:k.toNat<(pT l1 k.toNat).length:=by rw [Fp];omega
  have ue:∀i,cY ((pT l1 k.toNat).set k.toNat pt) i=if i=k.toNat then pt else cY l1 i:=fun i=>by rw [V7 _ _ hlen,V6]
  have sj:∀x∈(pT l1 k.toNat).set k.toNat pt,x=pt\/x=ai\/x∈l1:=fun x hx=>by
   rcases mem_or_eq_of_mem_set hx with hx | rfl
   ·rcases List.mem_append.1 hx with hx | hx
    ·exact .inr (.inr hx)
    ·exact .inr (.inl (eq_of_mem_replicate hx))
   ·exact .inl rfl
  have Ti:∀k'∈ks,k'≠k->k'.toNat≠k.toNat:=fun k' nD ey e=>by
   obtain ⟨b',Ks, -⟩:=g3 k' nD
   have:=(hf _ (aI Ks)).1
   simp only at this
   omega
  rcases h3.grow hI hn hw hp eV g1.tF hb.2 [] with ⟨rfl,k2,rfl⟩ | ⟨k1,k2,k3⟩
  ·refine ⟨nw,g1,fun e he => ?_,fun i hi => ?_,fun k' nD => ?_,fun x hx => ?_⟩
   ·obtain ⟨k',c1,c2⟩:=g0 e he
    refine ⟨k',mem_append_left _ c1, ?_⟩
    rw [ue,if_neg (Ti k' c1 (Gi.2.2 k' c1 k (mem_singleton.2 rfl)))];exact c2
   ·rw [List.mem_append,not_or] at hi
    rw [ue,if_neg (by have:=hi.2;simp only [mem_singleton] at this;omega)]
    exact g2 i hi.1
   ·by_cases c:k'=k
    ·subst c
     exact ⟨b,h2,.inl ⟨by rw [ue,if_pos rfl],k2⟩⟩
    ·have nD:=(List.mem_append.1 nD).resolve_right (fun h=>c (mem_singleton.1 h))
     obtain ⟨b',c1,c2⟩:=g3 k' nD
     refine ⟨b',c1, ?_⟩
     rw [ue,if_neg (Ti k' nD c)];exact c2
   ·rcases sj x hx with rfl | rfl | hx
    ·exact .inl rfl
    ·exact .inl rfl
    ·exact g4 x hx
  ·refine ⟨nw++[⟨pt,b,[]⟩],g1.trans k3,fun e he => ?_,fun i hi => ?_,fun k' nD => ?_,fun x hx => ?_⟩
   ·rcases List.mem_append.1 he with he | he
    ·obtain ⟨k',c1,c2⟩:=g0 e he
     refine ⟨k',mem_append_left _ c1, ?_⟩
     rw [ue,if_neg (Ti k' c1 (Gi.2.2 k' c1 k (mem_singleton.2 rfl)))];exact c2
    ·rw [mem_singleton.1 he]
     exact ⟨k,by simp,by rw [ue,if_pos rfl]⟩
   ·rw [List.mem_append,not_or] at hi
    rw [ue,if_neg (by have:=hi.2;simp only [mem_singleton] at this;omega)]
    exact g2 i hi.1
   ·by_cases c:k'=k
    ·subst c
     refine ⟨b,h2,.inr ⟨by rw [ue,if_pos rfl];exact k1,k2,⟨pt,b,[]⟩,by simp,by rw [ue,if_pos rfl],rfl⟩⟩
    ·have nD:=(List.mem_append.1 nD).resolve_right (fun h=>c (mem_singleton.1 h))
     obtain ⟨b',c1,c2⟩:=g3 k' nD
     refine ⟨b',c1, ?_⟩
     rw [ue,if_neg (Ti k' nD c)]
     rcases c2 with c2 | ⟨c2,c3,e,he,c4⟩
     ·exact .inl c2
     ·exact .inr ⟨c2,c3,e,mem_append_left _ he,c4⟩
   ·rcases sj x hx with rfl | rfl | hx
    ·exact .inr (.inr ⟨⟨x,b,[]⟩,by simp,rfl⟩)
    ·exact .inl rfl
    ·rcases g4 x hx with c | c | ⟨e,he,c⟩
     ·exact .inl c
     ·exact .inr (.inl c)
     ·exact .inr (.inr ⟨e,mem_append_left _ he,c⟩)
theorem nM.grow {N:Nat}{o o':Ob}(h:nM pr ls n gt P o P' o')(hs:NQ pr n ls P pm)(ho:dw pm N o):∃nw,Grow pr n gt ls P pm P' nw/\(∀e∈nw,e.x∈o'.aA\/e.x∈o'.index)/\uc pm nw N o o':=by
 have hz:=(ir pr hw hn).2
 have hNL:=s9 ho.sz
 have JT:=ho.V8 hs.po
 have RV:=h.RA hz eV hNL.1 JT
 obtain ⟨ks,P1,l1,idx,root,hp1, -,h1,h2,rfl⟩:=h
 have Gp:∀k,k∈ks↔k∈o.fresh.map (·.1):=fun k=>hp1.mem_iff
 obtain ⟨n1,g1,g0,g2,g3,g4⟩:=Fq.grow hI hn hw hp eV h1 hs (fun e he=>⟨(ho.fk e he).1,(ho.fk e he).2.2⟩) (hp1.nodup_iff.2 ho.fn)
 have RW:∀x∈l1,x=ai\/∃e∈pm++n1,e.x=x:=fun x hx=>by
  rcases g4 x hx with c | c | ⟨e,he,c⟩
  ·exact .inl c
  ·rcases ho.ptr x c with c | ⟨e,he,c⟩
   ·exact .inl c
   ·exact .inr ⟨e,mem_append_left _ he,c⟩
  ·exact .inr ⟨e,mem_append_right _ he,c⟩
 simp only at RV
 have afF:l1.length<=64:=by have:=RV.1;omega
 obtain ⟨n2,k1,k2,k3,k4,k5,k6⟩:=kC.grow hI hn hw hp eV h2 g1.tF afF (fun x hx=>J7 g1.tF.po (RW x hx)) { o with fresh:=[],clean:=true }
 have acY:∀i:Nat,aJ o.fresh (i:Int)=none->(i:Int)∉ks:=fun i hi hk=>q9 hi ((Gp _).1 hk)
 have acZ:∀(i:Nat) (b:List UInt8),aJ o.fresh (i:Int)=some b->(i:Int)∈ks:=fun i b hb=>(Gp _).2 (mem_map.2 ⟨_,aI hb,rfl⟩)
 have afG:∀x:Pt,(∃e∈pm++n1,e.x=x)->∃e∈pm++(n1++n2),e.x=x:=fun x ⟨e,he,c⟩=>⟨e,by rw [<-append_assoc];exact mem_append_left _ he,c⟩
 refine ⟨n1++n2,g1.trans k1,fun e he => ?_,⟨rfl,rfl,rfl,fun i hi=>g2 i (acY i hi),fun i b hb => ?_, ?_⟩⟩
 ·rcases List.mem_append.1 he with he | he
  ·left
   obtain ⟨k, -,c⟩:=g0 e he
   rcases mu (l:=l1) (i:=k.toNat) with d | d
   ·have:=(g1.tF.po.FB e (mem_append_right _ he)).cJ
    rw [c,d] at this
    exact absurd this.2.2.2.2.1 (by simp [ai])
   ·rw [c];exact d
  ·exact .inr (k2 e he)
 ·obtain ⟨b',c1,c2⟩:=g3 _ (acZ i b hb)
  rw [hb] at c1
  cases c1
  simp only [Int.toNat_natCast] at c2
  rcases c2 with c2 | ⟨c2,c3,e,he,c4⟩
  ·exact .inl c2
  ·exact .inr ⟨c2,c3,e,mem_append_left _ he,c4⟩
 ·refine ⟨fun x hx=>(RW x hx).imp id (afG x),(fun _ h=>by cases h),nodup_nil,RV.1,fun i hi => ?_,k4,ho.sz,RV.2.2.2.1,fun _=>⟨rfl,by rw [<-append_assoc];exact k3,Nat.le_trans k5 (Rt RV.1),fun x hx => ?_⟩⟩
  ·have jQ:N<=i:=hi
   have yl:(i:Int)∉ks:=fun hk=>by
    obtain ⟨e,he,e2⟩:=mem_map.1 ((Gp _).1 hk)
    have:=ho.fk e he
    omega
   show cY l1 i=ai
   rw [g2 i yl];exact ho.pz i jQ
  ·rcases k6 x hx with c | ⟨e,he,c⟩
   ·exact .inl c
   ·exact .inr ⟨e,mem_append_right _ (mem_append_right _ he),c⟩
theorem nO.grow {N:Nat}{o o':Ob}(h:nO pr ls n gt P o P' o')(hs:NQ pr n ls P pm)(ho:dw pm N o):∃nw,Grow pr n gt ls P pm P' nw/\(∀e∈nw,e.x∈o'.aA\/e.x∈o'.index)/\uc pm nw N o o':=by
 rcases h with ⟨hc,rfl,rfl⟩ | ⟨-,h⟩
 ·refine ⟨[],.rfl hs,(fun _ h=>by cases h),⟨rfl,rfl,hc,fun _ _=>rfl,fun i b hb => ?_,by rw [append_nil];exact ho⟩⟩
  rw [(ho.cl hc).1] at hb
  cases hb
 ·exact h.grow hI hn hw hp eV hs ho
theorem iu.grow {all os:List (Int×Ob)}{ks:List Int}{ds:List (Int×List Pt)}(h:iu pr ls n gt all P ks P' os ds)(hs:NQ pr n ls P pm)(hall:∀k o,aJ all k=some o->dw pm (dh o.size 1024) o)(AX:ks.Nodup) :
  ∃nw,Grow pr n gt ls P pm P' nw/\(∀k∈ks,∃o o',aJ all k=some o/\aJ os k=some o'/\uc pm nw (dh o.size 1024) o o')/\(∀e∈nw,∃k∈ks,∃o',aJ os k=some o'/\(e.x∈o'.aA\/e.x∈o'.index))/\ds=os.map fun e=>(e.1,eg e.2):=by
 induction h with
 | nil=>exact ⟨[],.rfl hs,(fun _ h=>by cases h),(fun _ h=>by cases h),rfl⟩
 | @snoc ks P1 P2 os ds k o o' h1 h2 h3 ih =>
  rw [nodup_append] at AX
  obtain ⟨nw,g1,g2,g4,g3⟩:=ih AX.1
  obtain ⟨n2,k1,k0,k2⟩:=h3.grow hI hn hw hp eV g1.tF (hall k o h2).app
  have hk:=h1.keys
  have yl:k∉os.map (·.1):=fun h=>by
   rw [hk.1] at h
   exact AX.2.2 k h k (mem_singleton.2 rfl) rfl
  have iy:∀k'∈ks,aJ (os++[(k,o')]) k'=aJ os k':=fun k' nD=>by rw [lL yl,if_neg (fun e=>AX.2.2 k' nD k (mem_singleton.2 rfl) e)]
  refine ⟨nw++n2,g1.trans k1,fun k' nD => ?_,fun e he => ?_,by rw [g3,map_append];rfl⟩
  rotate_left
  ·rcases List.mem_append.1 he with he | he
   ·obtain ⟨k',c1,p',c2,c3⟩:=g4 e he
    exact ⟨k',mem_append_left _ c1,p',by rw [iy k' c1];exact c2,c3⟩
   ·exact ⟨k,by simp,o',by rw [lL yl,if_pos rfl],k0 e he⟩
  rcases List.mem_append.1 nD with nD | nD
  ·obtain ⟨p,p',c1,c2,c3⟩:=g2 k' nD
   refine ⟨p,p',c1, ?_,c3.app⟩
   rw [lL yl,if_neg (fun e=>AX.2.2 k' nD k (mem_singleton.2 rfl) e)]
   exact c2
  ·rw [mem_singleton.1 nD]
   exact ⟨o,o',h2,by rw [lL yl,if_pos rfl],k2.pre⟩
end
def uf (b:List UInt8)(k:Nat):Bool:=bx ((b.drop (1024*k)).take 1024)
def Tq (T:Nat)(o:aw)(k:Nat):aw:=if o.ik k=true then { o with ik:=upd o.ik k false,born:=upd o.born k (if uf o.b k then 0 else T) } else o
def yF (T:Nat)(o:aw):Nat->aw
 | 0=>o
 | k+1=>Tq T (yF T o k) k
def jC (T:Nat)(o:aw):aw:=yF T o 64
theorem RY (T:Nat)(o:aw)(k:Nat):(Tq T o k).no=o.no/\(Tq T o k).b=o.b/\(Tq T o k).v=o.v:=by unfold Tq;split <;> exact ⟨rfl,rfl,rfl⟩
theorem cA (T:Nat)(o:aw):∀k,(yF T o k).no=o.no/\(yF T o k).b=o.b/\(yF T o k).v=o.v
 | 0=>⟨rfl,rfl,rfl⟩
 | k+1=>by
  have h1:=RY T (yF T o k) k
  have h2:=cA T o k
  exact ⟨h1.1.trans h2.1,h1.2.1.trans h2.2.1,h1.2.2.trans h2.2.2⟩
theorem Wa {α:Type}(f:Nat->α)(k:Nat)(x y:α):upd (upd f k x) k y=upd f k y:=by
 funext j
 unfold upd
 by_cases c:j=k
 ·rw [if_pos c,if_pos c]
 ·rw [if_neg c,if_neg c,if_neg c]
theorem MU {b:List UInt8}{k:Nat}(h:b.length<=1024*k):uf b k=true:=by
 unfold uf
 rw [drop_eq_nil_of_le h];rfl
theorem yG {L:List aw}{g:aw->aw}{i:Nat}{o:aw}(h:L[i]? = some o):((L.take i).map g++L.drop i).set i (g o)=(L.take (i+1)).map g++L.drop (i+1):=by
 have hi:=(List.getElem?_eq_some_iff.1 h).1
 have e:L[i]=o:=(List.getElem?_eq_some_iff.1 h).2
 have hl:((L.take i).map g).length=i:=by rw [length_map,length_take];omega
 rw [set_append_right _ _ oZ,hl,Nat.sub_self,drop_eq_getElem_cons hi,set_cons_zero,aK L hi,map_append,e,append_assoc];rfl
theorem FE {L:List aw}{g:aw->aw}{i:Nat}{o:aw}(h:L[i]? = some o):((L.take i).map g++L.drop i)[i]? = some o:=by
 have hi:=(List.getElem?_eq_some_iff.1 h).1
 have hl:((L.take i).map g).length=i:=by rw [length_map,length_take];omega
 rw [getElem?_append_right oZ,hl,Nat.sub_self,getElem?_drop];exact h
end Go.Sl
namespace Go.Proofs.YtpabnmeponmonaaGreatDoor
theorem Ik (a:Nat)(l:List aw)(aO:kN l)(ae note room ba:Nat)(yD:ae+1<18446744073709551616)(G:List UInt8)(fg:Option Addr)(cG:Nat)(DG:Chunk)(hG:Rd DG 1 (.slice fg 22528 cG) 22528 (au G))(vS:Value)(ad:Option Addr)(c:Nat)(D O:Chunk)(hH:MF D (.slice ad l.length c) l.length (l.flatMap aw.lay))(hO:HL O l) :
  Ct 9 [ptr a,.int .u64 ba] [[(a,iJ (.slice ad l.length c) ae note room (.slice fg 22528 cG) vS)],D,O,DG] fun _ Bs=>∃D' dy cS DS,MF D' (.slice ad l.length c) l.length ((l.map (jC (ae+1))).flatMap aw.lay)/\aC DS 5 1 (.slice dy 22528 cS) 22528 (au G)/\Bs=[[(a,iJ (.slice ad l.length c) (ae+1) ba room (.slice fg 22528 cG) (.slice dy 22528 cS))],D',O,DG,DS]:=by
 have mM:=aO.jd
 have mX:IntKind.u64.wrap ((ae:Int)+1)=((ae+1:Nat):Int):=by rw [IntWalk.u64_in _ oZ];omega
 obtain ⟨T,hT⟩:∃T,T=ae+1:=⟨_,rfl⟩
 rw [<-hT] at mX ⊢
 by_cases h0:l.length=0
 ·obtain rfl:=eq_nil_of_length_eq_zero h0
  refine st func9 fun w0 => ?_
  refine gl [0] (fun _:Nat=>[(4,.int .i64 0)]) (fun _=>[]) (fun _=>True) (fun _=>0) 0 trivial ?_
  rintro i -
  refine gp ?_;intro dy cS DS RI
  refine gz ?_
  exact fin ⟨D,dy,cS,DS,hH,RI,rfl⟩ aa
 ·rcases hH.2 with h | ⟨g,c',r,hv,rfl⟩
  ·exact absurd h h0
  cases hv
  refine st func9 fun w0 => ?_
  refine gl [0] (fun i:Nat=>[(4,.int .i64 i)]) (fun i=>[[(g,ax (((l.take i).map (jC T)++l.drop i).flatMap aw.lay++r) 81)]]) (fun i=>i<=l.length) (fun i=>l.length - i) 0 oZ ?_
  intro i hi
  refine gi ?_ ?_ <;> intro br
  ·have bh:i<l.length:=oZ
   obtain ⟨o,ho⟩:∃o,l[i]? = some o:=⟨_,getElem?_eq_getElem bh⟩
   have rT:=mem_of_getElem? ho
   have ic:=FE (g:=jC T) ho
   have tH:=yG (g:=jC T) ho
   obtain ⟨L,hL⟩:∃L,L=(l.take i).map (jC T)++l.drop i:=⟨_,rfl⟩
   have hLl:L.length=l.length:=by rw [hL,length_append,length_map,length_take,length_drop];omega
   rw [<-hL] at ic tH ⊢
   have eQ:∀x,(L.set i x)[i]? = some x:=fun x=>by rw [getElem?_set_self oZ]
   have vg:L=L.set i (yF T o 0):=by
    apply ext_getElem?
    intro j
    by_cases c:i=j
    ·subst c;rw [ic,eQ];rfl
    ·rw [getElem?_set_ne c]
   have Cj:=aO.sm o rT
   obtain ⟨⟨kK,cv,hv,Tb⟩,NI⟩:=hO o rT
   rw [hv] at NI
   rw [vg]
   refine gl [0,4] (fun k:Nat=>[(5,.int .i64 k)]) (fun k=>[[(g,ax ((L.set i (yF T o k)).flatMap aw.lay++r) 81)]]) (fun k=>k<=64) (fun k=>64 - k) 0 oZ ?_
   intro k hk
   refine gi ?_ ?_ <;> intro qI
   ·have RZ:k<64:=oZ
    obtain ⟨NR,afH⟩:∃q,q=yF T o k:=⟨_,rfl⟩
    have yX:=cA T o k
    have rR:yF T o (k+1)=Tq T (yF T o k) k:=rfl
    rw [<-afH] at yX rR ⊢
    have hlen:=Bw (L.set i NR) r
    rw [length_set,hLl] at hlen
    have NH:=tI (r:=r) (eQ NR) (NR.JM RZ)
    rw [<-Nat.add_assoc] at NH
    cases Q8:NR.ik k with
    | false =>
     have rR:yF T o (k+1)=NR:=by rw [rR,Tq,if_neg (by rw [Q8];simp)]
     rw [Q8] at NH
     refine gn ?_
     exact ⟨k+1,by omega,by omega,ar,_,by rw [rR];exact aa⟩
    | true =>
     rw [Q8] at NH
     obtain ⟨s1,vV⟩:∃s1:aw,s1={ NR with ik:=upd NR.ik k false }:=⟨_,rfl⟩
     obtain ⟨s2,lV⟩:∃s2:aw,s2={ s1 with born:=upd s1.born k T }:=⟨_,rfl⟩
     obtain ⟨s3,U3⟩:∃s3:aw,s3={ s1 with born:=upd s1.born k 0 }:=⟨_,rfl⟩
     have afI:uf o.b k=false->yF T o (k+1)=s2:=fun h=>by rw [rR,Tq,if_pos Q8,show uf NR.b k=false by rw [yX.2.1];exact h,if_neg (by simp),lV,vV]
     have ac0:uf o.b k=true->yF T o (k+1)=s3:=fun h=>by rw [rR,Tq,if_pos Q8,show uf NR.b k=true by rw [yX.2.1];exact h,if_pos rfl,U3,vV]
     have e1:=jz (r:=r) (o:=NR) (o':=s1) (v:=.bool false) (j:=66+k) oZ (by rw [vV];exact aw.uG _ RZ _) (eQ NR)
     have e2:=jz (r:=r) (o:=s1) (o':=s2) (v:=.int .u64 T) (j:=2+k) oZ (by rw [lV];exact aw.xi _ RZ _) (eQ s1)
     have e3:=jz (r:=r) (o:=s2) (o':=s3) (v:=.int .u64 0) (j:=2+k) oZ (by rw [U3,lV];exact (aw.xi _ RZ 0).trans (by rw [Wa])) (eQ s2)
     have hv2:=tI (r:=r) (eQ s2) (show s2.lay[1]? = some (.slice kK o.b.length cv) by rw [<-hv,<-yX.2.2,lV,vV];exact aw.sU _)
     rw [<-Nat.add_assoc,set_set] at e1 e2 e3
     rw [<-e2,<-e1] at hv2
     obtain ⟨C0,Uo⟩:∃C0,C0=(L.set i NR).flatMap aw.lay++r:=⟨_,rfl⟩
     rw [<-Uo] at NH hlen hv2 e1 ⊢
     have uk:(C0.set (i*130+66+k) (.bool false)).length=l.length*130+r.length:=by rw [length_set];exact hlen
     have jK:((C0.set (i*130+66+k) (.bool false)).set (i*130+2+k) (.int .u64 T)).length=l.length*130+r.length:=by rw [length_set];exact uk
     have e12:(C0.set (i*130+66+k) (.bool false)).set (i*130+2+k) (.int .u64 T)=(L.set i s2).flatMap aw.lay++r:=by rw [e1];exact e2
     have ac1:((C0.set (i*130+66+k) (.bool false)).set (i*130+2+k) (.int .u64 T)).set (i*130+2+k) (.int .u64 0)=(L.set i s3).flatMap aw.lay++r:=by rw [e12];exact e3
     by_cases yS:o.b.length<=1024*k
     ·have rR:=ac0 (MU yS)
      refine gn ?_
      rw [ac1]
      exact ⟨k+1,by omega,by omega,ar,_,by rw [rR];exact aa⟩
     ·obtain ⟨q,hq⟩:∃q,q=min (1024*k+1024) o.b.length - 1024*k:=⟨_,rfl⟩
      have dP:∀q',q'=min (1024*k+1024) o.b.length->((au o.b).drop (1024*k*1)).take ((q' - 1024*k)*1)=au ((o.b.drop (1024*k)).take 1024):=fun q' h=>by
       rw [Nat.mul_one,Nat.mul_one,bo,aQ]
       congr 1
       apply ext_getElem?
       intro j
       rw [getElem?_take,getElem?_take]
       by_cases c1:j<q' - 1024*k
       ·rw [if_pos c1,if_pos oZ]
       ·rw [if_neg c1]
        split
        ·rw [getElem?_eq_none (by rw [length_drop];omega)]
        ·rfl
      have afJ:((o.b.drop (1024*k)).take 1024).length=q:=by rw [length_take,length_drop];omega
      have uq:=fun v hv=>MG v O ((o.b.drop (1024*k)).take 1024) q afJ hv
      rw [show bx ((o.b.drop (1024*k)).take 1024)=uf o.b k from rfl] at uq
      by_cases hb4:o.b.length<1024*k+1024
      case' pos =>
       have qc:=dP o.b.length oZ
       have hnq:o.b.length - 1024*k=q:=oZ
      case' neg =>
       have qc:=dP (1024*k+1024) oZ
       have hnq:1024*k+1024 - 1024*k=q:=oZ
      all_goals
       refine gw ?_;intro ia DV
       refine gc (uq _ DV) ?_
       rintro _ _ ⟨rfl,rfl⟩
       cases ME:uf o.b k with
       | true =>
        have rR:=ac0 ME
        refine gn ?_
        rw [ac1]
        exact ⟨k+1,by omega,by omega,ar,_,by rw [rR];exact aa⟩
       | false =>
        have rR:=afI ME
        refine gn ?_
        rw [e12]
        exact ⟨k+1,by omega,by omega,ar,_,by rw [rR];exact aa⟩
   ·obtain rfl:k=64:=oZ
    refine gn ?_
    have afK:(l.take (i+1)).map (jC T)++l.drop (i+1)=L.set i (yF T o 64):=tH.symm
    exact ⟨i+1,by omega,by omega,ar,_,by rw [afK];exact aa⟩
  ·obtain rfl:i=l.length:=oZ
   rw [take_length,drop_length,append_nil]
   refine gp ?_;intro dy cS DS RI
   refine gz ?_
   have fJ:∀u∈(l.map (jC T)).flatMap aw.lay,u.oneCell'=true:=fun u hu=>by
    obtain ⟨x,hx,hu⟩:=mem_flatMap.1 hu
    obtain ⟨y,hy,rfl⟩:=mem_map.1 hx
    obtain ⟨⟨kK,cv,hv, -⟩, -⟩:=hO y hy
    exact aw.bK _ (by rw [show (jC T y).v=y.v from (cA T y 64).2.2,hv];rfl) u hu
   refine fin ⟨_,dy,cS,DS,⟨⟨by rw [gA aw.ak,length_map],fJ,by simp only [maxLen];omega,.inr ⟨g,0,c,_,_,_,rfl,mem_singleton.2 rfl,fun j u hu => ?_⟩⟩,.inr ⟨g,c,r,rfl,rfl⟩⟩,RI,rfl⟩ aa
   rw [Nat.zero_add,getElem?_toArray,getElem?_append_left (List.getElem?_eq_some_iff.1 hu).1];exact hu
end Go.Proofs.YtpabnmeponmonaaGreatDoor
namespace Go.Sl
def ke (pm:List dg)(x:Pt):List UInt8:=match pm.find? fun e=>decide (e.x=x) with
 | some e=>e.b
 | none=>[]
def fE (pm:List dg)(x:Pt):List Pt:=match pm.find? fun e=>decide (e.x=x) with
 | some e=>e.g
 | none=>[]
section
variable {pr:Bool}{w n:Nat}{R:Rk}{pm nw:List dg}{e:dg}{x:Pt}
theorem R3 (h:dv pr w n R pm)(he:e∈pm):pm.find? (fun f=>decide (f.x=e.x))=some e:=by
 cases hf:pm.find? fun f=>decide (f.x=e.x) with
 | none =>
  rw [find?_eq_none] at hf
  exact absurd (hf e he) (by simp)
 | some f =>
  have h1:=mem_of_find?_eq_some hf
  have h2:f.x=e.x:=by simpa using find?_some hf
  rw [h.one h1 he (by rw [h2])]
theorem xA (h:dv pr w n R pm)(he:e∈pm):ke pm e.x=e.b:=by unfold ke;rw [R3 h he]
theorem xB (h:dv pr w n R pm)(he:e∈pm):fE pm e.x=e.g:=by unfold fE;rw [R3 h he]
theorem Wb (h:∃e∈pm,e.x=x):(pm++nw).find? (fun f=>decide (f.x=x))=pm.find? fun f=>decide (f.x=x):=by
 rw [find?_append]
 cases hf:pm.find? fun f=>decide (f.x=x) with
 | none =>
  rw [find?_eq_none] at hf
  obtain ⟨e,he,c⟩:=h
  exact absurd (hf e he) (by simpa using c)
 | some f=>rfl
theorem Wc (h:∃e∈pm,e.x=x):ke (pm++nw) x=ke pm x:=by unfold ke;rw [Wb h]
end
theorem dx (rd:Pt->List UInt8)(o:Ob)(i:Nat):o.raw rd i=match aJ o.fresh (i:Int) with
 | some b=>b
 | none=>if cY o.aA i=ai then [] else rd (cY o.aA i):=by
 unfold Ob.raw cY
 cases aJ o.fresh (i:Int) with
 | some b=>rfl
 | none=>cases o.aA[i]? <;> simp
structure eh (pm:List dg)(o:Ob)(d:aw):Prop where
 us:o.used=true
 size:o.size=d.b.length
 sz:o.size<=65536
 fp:∀e∈o.fresh,1<=e.2.length
 byte:∀j,o.byte (ke pm) j=(d.b[j]?).getD 0
 ik:∀i:Nat,i<64->(aJ o.fresh (i:Int)).isSome=d.ik i
 born:∀i:Nat,i<64->d.ik i=false->(cY o.aA i).bg=d.born i
theorem Il (T:Nat)(o:aw)(k:Nat):∀n,(yF T o n).ik k=(if k<n then false else o.ik k)/\(yF T o n).born k=(if k<n/\o.ik k=true then (if uf o.b k then 0 else T) else o.born k)
 | 0=>by simp [yF]
 | n+1=>by
  obtain ⟨h1,h2⟩:=Il T o k n
  obtain ⟨s1,s2,s3⟩:=cA T o n
  unfold yF Tq
  have rest:∀x y:Nat,¬k=n->((if k<n then false else o.ik k)=(if k<n+1 then false else o.ik k))/\((if k<n/\o.ik k=true then x else y)=(if k<n+1/\o.ik k=true then x else y)):=fun x y e=>by
   by_cases c:k<n
   ·have c2:k<n+1:=oZ
    simp [c,c2]
   ·have c2:¬k<n+1:=oZ
    simp [c,c2]
  by_cases hc:(yF T o n).ik n=true
  ·rw [if_pos hc]
   by_cases e:k=n
   ·subst e
    rw [h1,if_neg oZ] at hc
    have c2:k<k+1:=oZ
    simp [upd,s2,hc]
   ·simp only [upd,if_neg e]
    rw [h1,h2]
    exact rest _ _ e
  ·rw [if_neg hc]
   have hc:(yF T o n).ik n=false:=by simpa using hc
   by_cases e:k=n
   ·subst e
    have h0:=hc
    rw [h1,if_neg oZ] at h0
    rw [hc,h2]
    simp [h0]
   ·rw [h1,h2]
    exact rest _ _ e
theorem rG {b:List UInt8}(h:∀y∈b,y=0)(j:Nat):(b[j]?).getD 0=0:=by
 cases hb:b[j]? with
 | none=>rfl
 | some y=>exact h y (mem_of_getElem? hb)
theorem FF {b:List UInt8}{N:Nat}(hN:b.length<=N)(h:∀j,j<N->(b[j]?).getD 0=0):∀y∈b,y=0:=fun y hy=>by
 obtain ⟨i,hi,rfl⟩:=getElem_of_mem hy
 have:=h i oZ
 rw [getElem?_eq_getElem hi] at this
 exact this
theorem xC (rd:Pt->List UInt8)(o:Ob)(i j:Nat)(hj:j<1024):o.byte rd (i*1024+j)=((o.raw rd i)[j]?).getD 0:=by
 unfold Ob.byte
 rw [show (i*1024+j) / 1024=i by omega,show (i*1024+j) % 1024=j by omega]
theorem eh.blank {pm:List dg}{o:Ob}{d:aw}(h:eh pm o d){i:Nat}{b:List UInt8}(hb:aJ o.fresh (i:Int)=some b)(hl:b.length<=1024):bx b=uf d.b i:=by
 have hr:o.raw (ke pm) i=b:=by rw [dx,hb]
 have hj:∀j,j<1024->(b[j]?).getD 0=(((d.b.drop (1024*i)).take 1024)[j]?).getD 0:=fun j hj=>by
  rw [<-hr,<-xC _ _ _ _ hj,h.byte,getElem?_take,if_pos hj,getElem?_drop,Nat.mul_comm 1024 i]
 rw [uf,Bool.eq_iff_iff,fO,fO]
 constructor
 ·intro hz
  exact FF (N:=1024) (by rw [length_take];omega) fun j Af=>by rw [<-hj j Af];exact rG hz j
 ·intro hz
  exact FF hl fun j Af=>by rw [hj j Af];exact rG hz j
theorem eh.cm {pr:Bool}{w n N T:Nat}{R:Rk}{pm nw:List dg}{o o':Ob}{d:aw}(h:eh pm o d)(hi:dw pm N o)(hc:uc pm nw N o o')(gV:dv pr w n R (pm++nw))(hT:∀e∈nw,e.x.bg=T):eh (pm++nw) o' (jC T d):=by
 obtain ⟨s1,s2,s3⟩:=cA T d 64
 have pv:o'.fresh=[]:=(hc.To.cl hc.clean).1
 have aaR:∀i:Nat,o'.raw (ke (pm++nw)) i=if cY o'.aA i=ai then [] else ke (pm++nw) (cY o'.aA i):=fun i=>by rw [dx,pv];rfl
 refine ⟨by rw [hc.used];exact h.us,by rw [hc.size,h.size];exact congrArg List.length s2.symm,by rw [hc.size];exact h.sz,(by rw [pv];intro e he;cases he),fun j => ?_,fun i xl => ?_,fun i xl _ => ?_⟩
 ·rw [show (jC T d).b=d.b from s2,<-h.byte j]
  have e:j=j / 1024*1024+j % 1024:=oZ
  have hm:=Nat.mod_lt j (show 0<1024 by omega)
  rw [e,xC _ _ _ _ hm,xC _ _ _ _ hm,aaR,dx]
  cases hf:aJ o.fresh ((j / 1024:Nat):Int) with
  | none =>
   simp only
   rw [hc.dr _ hf]
   split
   ·rfl
   ·rename_i ey
    have:∃e∈pm,e.x=cY o.aA (j / 1024):=by
     rcases mu (l:=o.aA) (i:=j / 1024) with c | c
     ·exact absurd c ey
     ·exact (hi.ptr _ c).resolve_left ey
    rw [Wc this]
  | some b =>
   simp only
   rcases hc.put _ b hf with ⟨c1,c2⟩ | ⟨c1, -,f,hf',c3,c4⟩
   ·rw [if_pos c1,rG (fO.1 c2)];rfl
   ·rw [if_neg c1,<-c3,xA gV (mem_append_right _ hf'),c4]
 ·rw [pv,show (jC T d).ik i=false by rw [jC,(Il T d i 64).1,if_pos xl]];rfl
 ·rw [jC,(Il T d i 64).2]
  have ht:=h.ik i xl
  cases hf:aJ o.fresh (i:Int) with
  | none =>
   rw [hf] at ht
   have ht:d.ik i=false:=by rw [<-ht];rfl
   rw [if_neg (by rw [ht];simp),hc.dr i hf]
   exact h.born i xl ht
  | some b =>
   rw [hf] at ht
   have ht:d.ik i=true:=by rw [<-ht];rfl
   have dP:=h.blank hf (hi.fk _ (aI hf)).2.2
   rw [if_pos ⟨xl,ht⟩]
   rcases hc.put i b hf with ⟨c1,c2⟩ | ⟨c1,c2,f,hf',c3, -⟩
   ·rw [<-dP,c2,if_pos rfl,c1];rfl
   ·rw [<-dP,c2,if_neg (by simp),<-c3];exact hT f hf'
structure bM (pm:List dg)(all:List (Int×Ob))(l:List aw):Prop where
 keys:∀k:Int,(aJ all k=none/\eM l k=none)\/∃o d,aJ all k=some o/\eM l k=some d/\dw pm (dh o.size 1024) o/\eh pm o d
 kn:(all.map (·.1)).Nodup
 ord:l.Pairwise fun a b=>a.no<b.no
 no:∀d∈l,1<=d.no/\d.no<=112
theorem pY {l:List aw}(h:l.Pairwise fun a b=>a.no<b.no){d:aw}(hd:d∈l):eM l (d.no:Int)=some d:=by
 induction l with
 | nil=>cases hd
 | cons x r ih =>
  rw [pairwise_cons] at h
  unfold eM at *
  rcases List.mem_cons.1 hd with rfl | hd
  ·rw [find?_cons_of_pos (by simp)]
  ·have:=h.1 d hd
   rw [find?_cons_of_neg (by simp;omega)]
   exact ih h.2 hd
section
variable {pm:List dg}{all:List (Int×Ob)}{l:List aw}
theorem bM.perm (h:bM pm all l):(all.map (·.1)).Perm (l.map fun d=>(d.no:Int)):=by
 have dq:(l.map fun d=>(d.no:Int)).Nodup:=pairwise_map.2 (h.ord.imp fun h e=>by omega)
 refine (perm_ext_iff_of_nodup h.kn dq).2 fun k => ?_
 constructor
 ·intro hk
  obtain ⟨e,he,rfl⟩:=mem_map.1 hk
  have h1:=mj h.kn he
  rcases h.keys e.1 with ⟨c, -⟩ | ⟨o,d, -,c2, -⟩
  ·rw [h1] at c;cases c
  ·obtain ⟨c3,c4⟩:=fH c2
   exact mem_map.2 ⟨d,c3,c4⟩
 ·intro hk
  obtain ⟨d,hd,rfl⟩:=mem_map.1 hk
  have h1:=pY h.ord hd
  rcases h.keys (d.no:Int) with ⟨-,c⟩ | ⟨o,d',c1, -⟩
  ·rw [h1] at c;cases c
  ·exact mem_map.2 ⟨_,aI c1,rfl⟩
theorem bM.dl (h:bM pm all l):kN l:=by
 refine ⟨?_,fun d hd => ?_,fun d hd=>(h.no d hd).2⟩
 ·have dq:(l.map fun d=>d.no).Nodup:=pairwise_map.2 (h.ord.imp fun h e=>by omega)
  have h1:(l.map fun d=>d.no).length<=((List.range 112).map (· + 1)).length:=fQ dq fun k hk=>by
   obtain ⟨d,hd,rfl⟩:=mem_map.1 hk
   have:=h.no d hd
   exact mem_map.2 ⟨d.no - 1,by simp;omega,by omega⟩
  simpa using h1
 ·rcases h.keys (d.no:Int) with ⟨-,c⟩ | ⟨o,d', -,c2, -,c3⟩
  ·rw [pY h.ord hd] at c;cases c
  ·rw [pY h.ord hd] at c2;cases c2
   rw [<-c3.size];exact c3.sz
theorem bM.cost (h:bM pm all l)(k:Int):gM all k=iU l k:=by
 unfold gM iU
 rcases h.keys k with ⟨c1,c2⟩ | ⟨o,d,c1,c2, -,c3⟩
 ·rw [c1,c2]
 ·rw [c1,c2];simp only;rw [c3.size]
theorem bM.used (h:bM pm all l):eW all=aT l:=by
 rw [zw h.kn,(h.perm.map _).sum_nat,map_map]
 unfold aT
 congr 1
 refine map_congr_left fun d hd => ?_
 simp only [Function.comp]
 rw [h.cost,iU,pY h.ord hd]
theorem bM.fits (h:bM pm all l)(k:Int)(size room:Nat):px all k size room=cQ l k size room:=by
 unfold px cQ
 rw [h.used,h.cost]
theorem BM (T:Nat)(k:Int):∀l:List aw,eM (l.map (jC T)) k=(eM l k).map (jC T)
 | []=>rfl
 | x :: r=>by
  have ih:=BM T k r
  have hs:=(cA T x 64).1
  unfold eM at *
  rw [map_cons]
  by_cases c:(x.no:Int)=k
  ·rw [find?_cons_of_pos (by rw [jC,hs];simpa using c),find?_cons_of_pos (by simpa using c)];rfl
  ·rw [find?_cons_of_neg (by rw [jC,hs];simpa using c),find?_cons_of_neg (by simpa using c)];exact ih
theorem bM.cm {pr:Bool}{w n T:Nat}{R:Rk}{nw:List dg}{os:List (Int×Ob)}{ks:List Int}(h:bM pm all l)(hk:ks.Perm (all.map (·.1)))(QY:os.map (·.1)=ks)(hc:∀k∈ks,∃o o',aJ all k=some o/\aJ os k=some o'/\uc pm nw (dh o.size 1024) o o')(gV:dv pr w n R (pm++nw))(hT:∀e∈nw,e.x.bg=T):bM (pm++nw) os (l.map (jC T)):=by
 refine ⟨fun k => ?_,by rw [QY];exact hk.nodup_iff.2 h.kn, ?_,fun d hd => ?_⟩
 ·rcases h.keys k with ⟨c1,c2⟩ | ⟨o,d,c1,c2,c3,c4⟩
  ·left
   refine ⟨kD ?_,by rw [BM,c2];rfl⟩
   rw [QY,hk.mem_iff];exact q9 c1
  ·right
   obtain ⟨p,p',g1,g2,g3⟩:=hc k (hk.mem_iff.2 (mem_map.2 ⟨_,aI c1,rfl⟩))
   rw [c1] at g1;cases g1
   refine ⟨p',jC T d,g2,by rw [BM,c2];rfl,by rw [g3.size];exact g3.To,c4.cm c3 g3 gV hT⟩
 ·rw [pairwise_map]
  exact h.ord.imp fun {a b} c=>by rw [show (jC T a).no=a.no from (cA T a 64).1,show (jC T b).no=b.no from (cA T b 64).1];exact c
 ·obtain ⟨x,hx,rfl⟩:=mem_map.1 hd
  rw [show (jC T x).no=x.no from (cA T x 64).1];exact h.no x hx
end
structure NS (z m q ae:Nat)(x:Rm)(pm:List dg):Prop where
 ok:x.Ok (z:Int) (m:Int)
 nd:x.D.Nodup
 hd:∀e∈pm,aM m e.x∈x.D/\aM m e.x∉x.W
 ds:∀k∈x.D,k∈x.W\/∃e∈pm,aM m e.x=k
 gr:∀g∈x.fV,(g.1=(ae:Int)\/g.1+1=(ae:Int))/\g.2.length<=q
 gn:(x.fV.map (·.1)).Nodup
theorem Yc {α:Type}{q:Nat}:∀ {L:List (Int×List α)},(∀g∈L,g.2.length<=q)->(L.flatMap (·.2)).length<=L.length*q
 | [],_=>by simp
 | g :: r,h=>by
  have h1:=h g (mem_cons_self ..)
  have h2:=Yc (L:=r) fun x hx=>h x (mem_cons_of_mem _ hx)
  rw [flatMap_cons,length_append,length_cons,Nat.succ_mul];omega
theorem NS.wl {z m q ae:Nat}{x:Rm}{pm:List dg}(h:NS z m q ae x pm):x.W.length<=2*q:=by
 have h1:=Yc (q:=q) (L:=x.fV) fun g hg=>(h.gr g hg).2
 have h2:(x.fV.map (·.1)).length<=[(ae:Int),(ae:Int) - 1].length:=fQ h.gn fun k hk=>by
  obtain ⟨g,hg,rfl⟩:=mem_map.1 hk
  have:=(h.gr g hg).1
  simp only [List.mem_cons,not_mem_nil,or_false];omega
 simp only [length_map,length_cons,length_nil] at h2
 have h3:=Nat.mul_le_mul_right q h2
 unfold Rm.W
 omega
theorem NS.dl {z m q ae:Nat}{x:Rm}{pm:List dg}(h:NS z m q ae x pm):x.D.length<=pm.length+2*q:=by
 have h1:=s7 (l:=x.D) (m:=x.W++pm.map fun e=>aM m e.x) h.nd fun k hk=>by
  rcases h.ds k hk with c | ⟨e,he,c⟩
  ·exact mem_append_left _ c
  ·exact mem_append_right _ (mem_map.2 ⟨e,he,c⟩)
 have h2:=h.wl
 rw [length_append,length_map] at h1
 omega
theorem FG {T:Int}{k:Nat}:∀ {L:List (Int×List Nat)},T∉L.map (·.1)->mN L T k=L++[(T,[k])]
 | [],_=>rfl
 | (j,l) :: r,h=>by
  rw [map_cons,List.mem_cons,not_or] at h
  rw [mN,if_neg (fun e=>h.1 e.symm),FG h.2];rfl
theorem FH {T:Int}{k:Nat}{q:List Nat}:∀ {L:List (Int×List Nat)},T∉L.map (·.1)->mN (L++[(T,q)]) T k=L++[(T,q++[k])]
 | [],_=>by simp [mN]
 | (j,l) :: r,h=>by
  rw [map_cons,List.mem_cons,not_or] at h
  rw [cons_append,mN,if_neg (fun e=>h.1 e.symm),FH h.2];rfl
theorem Im {T m:Nat}{a:Rm}(hT:(T:Int)∉a.fV.map (·.1)):∀fs:List Pt,(bA T a m fs).fV=a.fV++(if fs=[] then [] else [((T:Int),fs.map (aM m))]):=by
 intro fs
 have key:∀(r fs:List Pt),fs≠[]->∀b:Rm,b.fV=a.fV++[((T:Int),fs.map (aM m))]->(bA T b m r).fV=a.fV++[((T:Int),(fs++r).map (aM m))]:=by
  intro r
  induction r with
  | nil=>intro fs _ b hb;rw [append_nil];exact hb
  | cons x r ih =>
   intro fs hf b hb
   have:(bA T b m (x :: r))=bA T (b.free T (aM m x)) m r:=rfl
   rw [this,ih (fs++[x]) (by simp) _ (by
    show mN b.fV T (aM m x)=_
    rw [hb,FH hT,map_append];rfl),append_assoc];rfl
 cases fs with
 | nil=>simp [bA]
 | cons x r =>
  have:(bA T a m (x :: r))=bA T (a.free T (aM m x)) m r:=rfl
  rw [this,key r [x] (by simp) _ (by
   show mN a.fV T (aM m x)=_
   rw [FG hT];rfl)]
  simp
section
variable {pr:Bool}{n q ae:Nat}{ls:List (Option Lv)}{P P2:PS}{pm nw:List dg}{od ds:List (Int×List Pt)}{fs:List Pt}
theorem NS.cm (h:NS (bD pr ls.length n) (aL pr ls.length 1024) q ae P.x pm)(hg:Grow pr n (ae+1) ls P pm P2 nw)(yj:P2.x.fV=P.x.fV)
  (NP:∀x,x∈aY od↔∃e∈pm,e.x=x) (eF:∀e∈nw,e.x∈aY ds) (xV:fs.Nodup) (ya:∀x,x∈fs↔x∈aY od/\x∉aY ds) (tW:je (bD pr ls.length n:Nat) (aL pr ls.length 1024:Nat) (aL pr ls.length 1024) (ae+1) P2.x fs) (hq:pm.length<=q) (ht:1<=ae) :
  NS (bD pr ls.length n) (aL pr ls.length 1024) q (ae+1) ((bA (ae+1) P2.x (aL pr ls.length 1024) fs).sync ((ae+1:Nat):Int)) ((pm++nw).filter fun e=>decide (e.x∈aY ds)):=by
 obtain ⟨m,hm⟩:∃m,m=aL pr ls.length 1024:=⟨_,rfl⟩
 have aaS:=hg.tF
 have nC:=aaS.po
 have pv:=hg.fr
 have zf:=hg.ds
 have fJ:=fun e he f hf=>nC.one (e:=e) (f:=f) he hf
 rw [<-hm] at h tW pv zf fJ ⊢
 have Xz:=aaS.dd
 rw [<-hm] at Xz
 have hTn:((ae+1:Nat):Int)∉P2.x.fV.map (·.1):=fun hc=>by
  obtain ⟨g,R4,e⟩:=mem_map.1 hc
  rw [yj] at R4
  have:=(h.gr g R4).1
  omega
 have JX:=Im (m:=m) hTn fs
 obtain ⟨F,hF⟩:∃F,F=bA (ae+1) P2.x m fs:=⟨_,rfl⟩
 rw [<-hF] at JX ⊢
 have hFd:F.D=P2.x.D:=by rw [hF];exact tW.d
 have Wd:F.Ok (bD pr ls.length n:Nat) (m:Nat):=by rw [hF];exact tW.ok
 rw [yj] at JX
 have ac2:∀x∈fs,∃e∈pm,e.x=x:=fun x hx=>(NP x).1 ((ya x).1 hx).1
 have ju:fs.length<=q:=by
  have:=fQ (l:=fs) (m:=pm.map (·.x)) xV fun x hx=>by
   obtain ⟨e,he,c⟩:=ac2 x hx
   exact mem_map.2 ⟨e,he,c⟩
  rw [length_map] at this;omega
 have hFg:∀g∈F.fV,g∈P.x.fV\/(fs≠[]/\g=(((ae+1:Nat):Int),fs.map (aM m))):=fun g R4=>by
  rw [JX,List.mem_append] at R4
  rcases R4 with c | c
  ·exact .inl c
  ·split at c
   ·cases c
   ·exact .inr ⟨by assumption,mem_singleton.1 c⟩
 have hFW:∀k,k∈F.W↔k∈P.x.W\/∃x∈fs,aM m x=k:=fun k=>by
  unfold Rm.W
  rw [JX,flatMap_append,List.mem_append]
  refine or_congr Iff.rfl ?_
  split
  ·rename_i c;subst c;simp
  ·simp
 have hWW:∀k,k∈(F.sync ((ae+1:Nat):Int)).W->k∈F.W:=fun k hk=>by
  obtain ⟨g,R4,c⟩:=mem_flatMap.1 hk
  exact mem_flatMap.2 ⟨g,(mem_filter.1 R4).1,c⟩
 have afL:∀k,k∈(F.fV.filter fun g=>j6 ((ae+1:Nat):Int) g.1).flatMap (·.2)->k∈P.x.W:=fun k hk=>by
  obtain ⟨g,R4,c⟩:=mem_flatMap.1 hk
  obtain ⟨c1,c2⟩:=mem_filter.1 R4
  rcases hFg g c1 with c3 | ⟨-,rfl⟩
  ·exact mem_flatMap.2 ⟨g,c3,c⟩
  ·simp only [j6,decide_eq_true_eq] at c2;omega
 have hDs:∀k,k∈(F.sync ((ae+1:Nat):Int)).D↔k∈P2.x.D/\k∉(F.fV.filter fun g=>j6 ((ae+1:Nat):Int) g.1).flatMap (·.2):=fun k=>by
  show k∈F.D.filter _↔_
  rw [mem_filter,hFd]
  simp
 have Yd:∀e∈(pm++nw).filter fun e=>decide (e.x∈aY ds),aM m e.x∉F.W:=fun e he hc=>by
  obtain ⟨c1,c2⟩:=mem_filter.1 he
  have c2:e.x∈aY ds:=by simpa using c2
  rcases (hFW _).1 hc with c | ⟨x,hx,c⟩
  ·rcases List.mem_append.1 c1 with c3 | c3
   ·exact (h.hd e c3).2 c
   ·exact pv e c3 (h.ok.wd _ c)
  ·obtain ⟨f,hf,rfl⟩:=ac2 x hx
   have:=fJ f (mem_append_left _ hf) e c1 c
   subst this
   exact ((ya _).1 hx).2 c2
 refine ⟨⟨fun k hk => ?_, ?_,fun k hk => ?_⟩, ?_,fun e he=>⟨?_,fun hc=>Yd e he (hWW _ hc)⟩,fun k hk => ?_,fun g R4 => ?_, ?_⟩
 ·exact Wd.dl k (by rw [hFd];exact ((hDs k).1 hk).1)
 ·have hs:((F.fV.filter fun g => !j6 ((ae+1:Nat):Int) g.1).flatMap (·.2)).Sublist (F.fV.flatMap (·.2)):=by
   have:∀L:List (Int×List Nat),((L.filter fun g => !j6 ((ae+1:Nat):Int) g.1).flatMap (·.2)).Sublist (L.flatMap (·.2)):=by
    intro L
    induction L with
    | nil=>exact List.Sublist.refl _
    | cons g r ih =>
     rw [filter_cons]
     split
     ·rw [flatMap_cons,flatMap_cons];exact List.Sublist.append (List.Sublist.refl _) ih
     ·rw [flatMap_cons];exact ih.trans (sublist_append_right _ _)
   exact this _
  exact hs.nodup Wd.wn
 ·refine (hDs k).2 ⟨by rw [<-hFd];exact Wd.wd k (hWW k hk),fun hc => ?_⟩
  obtain ⟨g1,a1,a2⟩:=mem_flatMap.1 hk
  obtain ⟨g2,b1,b2⟩:=mem_flatMap.1 hc
  obtain ⟨a3,a4⟩:=mem_filter.1 a1
  obtain ⟨b3,b4⟩:=mem_filter.1 b1
  have ey:g1≠g2:=fun e=>by subst e;rw [b4] at a4;simp at a4
  have hw:=Wd.wn
  unfold Rm.W at hw
  obtain ⟨i,hi,rfl⟩:=getElem_of_mem a3
  obtain ⟨j,hj,rfl⟩:=getElem_of_mem b3
  have ac3:∀(L:List (Int×List Nat)),(L.flatMap (·.2)).Nodup->∀i j (hi:i<L.length) (hj:j<L.length),i<j->k∈L[i].2->k∈L[j].2->False:=by
   intro L
   induction L with
   | nil=>intro _ i j hi;exact absurd hi (by simp)
   | cons g r ih =>
    intro hL i j hi hj F9 h1 h2
    rw [flatMap_cons,nodup_append] at hL
    cases j with
    | zero=>omega
    | succ j =>
     cases i with
     | zero=>exact hL.2.2 k h1 k (mem_flatMap.2 ⟨r[j]'(by simpa using hj),getElem_mem _,h2⟩) rfl
     | succ i=>exact ih hL.2.1 i j (by simpa using hi) (by simpa using hj) oZ h1 h2
  rcases Nat.lt_trichotomy i j with c | c | c
  ·exact ac3 _ hw i j hi hj c a2 b2
  ·subst c;exact ey rfl
  ·exact ac3 _ hw j i hj hi c b2 a2
 ·show (F.D.filter _).Nodup
  exact filter_sublist.nodup (by rw [hFd];exact aaS.nd)
 ·obtain ⟨c1, -⟩:=mem_filter.1 he
  exact (hDs _).2 ⟨Xz e c1,fun hc=>Yd e he ((hFW _).2 (.inl (afL _ hc)))⟩
 ·obtain ⟨c1,c2⟩:=(hDs k).1 hk
  have bB:∀g,g∈F.fV->k∈g.2->k∈(F.sync ((ae+1:Nat):Int)).W:=fun g c3 c4=>by
   refine mem_flatMap.2 ⟨g,mem_filter.2 ⟨c3, ?_⟩,c4⟩
   cases hr:j6 ((ae+1:Nat):Int) g.1 with
   | false=>rfl
   | true=>exact absurd (mem_flatMap.2 ⟨g,mem_filter.2 ⟨c3,hr⟩,c4⟩) c2
  have afM:∀e∈pm,aM m e.x=k->k∈(F.sync ((ae+1:Nat):Int)).W\/∃e∈(pm++nw).filter (fun e=>decide (e.x∈aY ds)),aM m e.x=k:=fun e he c=>by
   by_cases hd:e.x∈aY ds
   ·exact .inr ⟨e,mem_filter.2 ⟨mem_append_left _ he,by simpa using hd⟩,c⟩
   ·left
    have hfx:e.x∈fs:=(ya _).2 ⟨(NP _).2 ⟨e,he,rfl⟩,hd⟩
    refine bB (((ae+1:Nat):Int),fs.map (aM m)) ?_ (mem_map.2 ⟨e.x,hfx,c⟩)
    rw [JX,if_neg (fun e=>by rw [e] at hfx;cases hfx)]
    simp
  rcases zf k c1 with c | ⟨e,he,c⟩
  ·rcases h.ds k c with d | ⟨e,he,d⟩
   ·left
    obtain ⟨g,c3,c4⟩:=mem_flatMap.1 d
    exact bB g (by rw [JX];exact mem_append_left _ c3) c4
   ·exact afM e he d
  ·exact .inr ⟨e,mem_filter.2 ⟨mem_append_right _ he,by simpa using eF e he⟩,c⟩
 ·obtain ⟨c1,c2⟩:=mem_filter.1 R4
  rcases hFg g c1 with c3 | ⟨-,rfl⟩
  ·have:=h.gr g c3
   refine ⟨?_,this.2⟩
   have h2:j6 ((ae+1:Nat):Int) g.1=false:=by simpa using c2
   simp only [j6,decide_eq_false_iff_not] at h2
   omega
  ·exact ⟨.inl rfl,by rw [length_map];exact ju⟩
 ·have hk:(F.fV.map (·.1)).Nodup:=by
   rw [JX,map_append,nodup_append]
   refine ⟨h.gn,by split <;> simp,fun a ha b hb e => ?_⟩
   split at hb
   ·cases hb
   ·simp only [map_cons,map_nil,mem_singleton] at hb
    rw [e,hb] at ha
    rw [yj] at hTn
    exact hTn ha
  exact (filter_sublist.map _).nodup hk
end
structure uL (pm:List dg)(cs:List (Int×Ob))(mo:Ob)(l:List aw):Prop where
 rel:bM pm cs l
 cl:∀k o,aJ cs k=some o->o.clean=true
 mc:mo.clean=true
 mi:dw pm 8 mo
 KR:∀j,mo.byte (ke pm) j=((fM (slotsOf cs))[j]?).getD 0
theorem gX {l:List Pt}{x:Pt}:x∈bL l↔x∈l/\x≠ai:=by
 unfold bL
 rw [mem_filter];simp
theorem R5 {l:List Pt}{N:Nat}(h:∀i,N<=i->cY l i=ai):(bL l).length<=N:=by
 have h2:bL (l.drop N)=[]:=by
  unfold bL
  rw [filter_eq_nil_iff]
  intro x hx
  obtain ⟨i,hi,rfl⟩:=getElem_of_mem hx
  have:=h (N+i) oZ
  unfold cY at this
  rw [getElem_drop]
  rw [length_drop] at hi
  rw [getElem?_eq_getElem oZ] at this
  simpa using this
 have e:bL l=bL (l.take N)++bL (l.drop N):=by
  unfold bL
  rw [<-filter_append,take_append_drop]
 rw [e,h2,append_nil]
 exact Nat.le_trans (lO _) (by rw [length_take];omega)
theorem rH {pm:List dg}{N:Nat}{o:Ob}(h:dw pm N o)(hc:o.clean=true):(eg o).length<=N+yf (Ij N):=by
 have h1:=R5 h.pz
 have h2:=lO o.index
 have h3:=(h.cl hc).2.2.1
 have e:eg o=bL o.aA++bL o.index:=by unfold eg bL;rw [filter_append]
 rw [e,length_append];omega
theorem FI {pm:List dg}{N:Nat}{o:Ob}(h:dw pm N o)(hc:o.clean=true):∀x∈eg o,∃e∈pm,e.x=x:=fun x hx=>by
 obtain ⟨h1,h2⟩:=gX.1 hx
 rcases List.mem_append.1 h1 with c | c
 ·exact (h.ptr x c).resolve_left h2
 ·exact ((h.cl hc).2.2.2 x c).resolve_left h2
theorem R6 (z:Nat):RB z=Ij (dh z 1024):=rfl
theorem Io {z:Nat}(hz:z<=65536):dh z 1024+yf (RB z)<=cost z:=by
 unfold yf RB dh cost
 by_cases h:z=0
 ·subst h;simp
 ·rw [if_neg h,if_neg oZ];omega
theorem aaT {pm:List dg}{o:Ob}(h:dw pm (dh o.size 1024) o)(hz:o.size<=65536):Fv (RB o.size) o<=cost o.size:=by
 have h1:=Io hz
 have h2:=h.jd.1
 unfold Fv
 split
 ·exact Nat.zero_le _
 ·omega
section
variable {pr:Bool}{w n N:Nat}{R:Rk}{pm fD:List dg}
theorem We (gV:dv pr w n R pm)(xD:dv pr w n R fD)(hs:∀e∈fD,e∈pm){x:Pt}(h:∃e∈fD,e.x=x):ke fD x=ke pm x:=by
 obtain ⟨e,he,rfl⟩:=h
 rw [xA xD he,xA gV (hs e he)]
theorem Wf (gV:dv pr w n R pm){e:dg}(he:e∈pm)(h:∃f∈fD,f.x=e.x)(hs:∀e∈fD,e∈pm):e∈fD:=by
 obtain ⟨f,hf,c⟩:=h
 have:=gV.one (hs f hf) he (by rw [c])
 rw [<-this];exact hf
theorem dw.sub {o:Ob}(h:dw pm N o)(gV:dv pr w n R pm)(hs:∀e∈fD,e∈pm)(hp:∀x∈o.aA,x≠ai->∃e∈fD,e.x=x)(hi:o.clean=true->∀x∈o.index,x≠ai->∃e∈fD,e.x=x):dw fD N o:=by
 have hz:∀(x:Pt) {p:Prop},(x≠ai->p)->x=ai\/p:=fun x p h=>by
  by_cases c:x=ai
  ·exact .inl c
  ·exact .inr (h c)
 refine ⟨fun x hx=>hz x (hp x hx),h.fk,h.fn,h.pl,h.pz,h.il,h.sz,h.rt,fun c=>⟨(h.cl c).1,(h.cl c).2.1.mono fun e he hx => ?_,(h.cl c).2.2.1,fun x hx=>hz x (hi c x hx)⟩⟩
 refine Wf gV he (hi c e.x hx fun h0 => ?_) hs
 have:=(gV.FB e he).cJ
 rw [h0] at this
 exact absurd this.2.2.2.2.1 (by simp [ai])
theorem FJ {o:Ob}(gV:dv pr w n R pm)(xD:dv pr w n R fD)(hs:∀e∈fD,e∈pm)(hp:∀x∈o.aA,x≠ai->∃e∈fD,e.x=x)(j:Nat):o.byte (ke fD) j=o.byte (ke pm) j:=by
 unfold Ob.byte
 congr 2
 rw [dx,dx]
 cases aJ o.fresh ((j / 1024:Nat):Int) with
 | some b=>rfl
 | none =>
  simp only
  split
  ·rfl
  ·rename_i ey
   rcases mu (l:=o.aA) (i:=j / 1024) with c | c
   ·exact absurd c ey
   ·rw [We gV xD hs (hp _ c ey)]
theorem eh.sub {o:Ob}{d:aw}(h:eh pm o d)(gV:dv pr w n R pm)(xD:dv pr w n R fD)(hs:∀e∈fD,e∈pm)(hp:∀x∈o.aA,x≠ai->∃e∈fD,e.x=x):eh fD o d :=
 ⟨h.us,h.size,h.sz,h.fp,fun j=>by rw [FJ gV xD hs hp];exact h.byte j,h.ik,h.born⟩
end
theorem R7 {os:List (Int×Ob)}{z:Int×List Pt}:(aY (os.map (fun e=>(e.1,eg e.2))++[z])).length=(os.map fun e=>(eg e.2).length).sum+z.2.length:=by
 unfold aY
 rw [flatMap_append,length_append]
 congr 1
 ·induction os with
  | nil=>rfl
  | cons e r ih=>rw [map_cons,flatMap_cons,length_append,ih,map_cons,sum_cons]
 ·simp
theorem MV {os:List (Int×Ob)}{z:Int×List Pt}{x:Pt}:x∈aY (os.map (fun e=>(e.1,eg e.2))++[z])↔(∃e∈os,x∈eg e.2)\/x∈z.2:=by
 unfold aY
 rw [flatMap_append,List.mem_append]
 refine or_congr ?_ (by simp)
 rw [mem_flatMap]
 constructor
 ·rintro ⟨e,he,hx⟩
  obtain ⟨f,hf,rfl⟩:=mem_map.1 he
  exact ⟨f,hf,hx⟩
 ·rintro ⟨f,hf,hx⟩
  exact ⟨_,mem_map.2 ⟨f,hf,rfl⟩,hx⟩
theorem R8 {α:Type}(l:List α)(i:Nat):aJ (jB 0 l) (i:Int)=l[i]?:=by
 cases h:l[i]? with
 | none =>
  refine kD fun hk => ?_
  obtain ⟨e,he,e2⟩:=mem_map.1 hk
  obtain ⟨j,hj,e3, -⟩:=rB he
  rw [List.getElem?_eq_none_iff] at h
  omega
 | some v =>
  have hi:=(List.getElem?_eq_some_iff.1 h).1
  have hv:=(List.getElem?_eq_some_iff.1 h).2
  refine fu (pV 0 l) ?_
  have:=nQ 0 l i (by rw [lN];exact hi)
  rw [Nat.zero_add,hv] at this
  rw [<-this];exact getElem_mem _
theorem xE (pm:List dg){b:List UInt8}(hb:b.length=8064):dw pm 8 (jl b):=by
 have h8:(fm b).length=8:=by simp [fm,dN,hb,dh]
 exact ⟨(fun _ h=>by cases h),fun e he=>by
  obtain ⟨j,hj,e1,e2⟩:=rB he
  have:=zF _ (mem_of_getElem? e2)
  omega,pV _ _,by simp [jl],fun i _=>iX (Nat.zero_le _),by simp [jl],by omega,⟨by simp [jl,fK],by simp only [jl];exact dK⟩,fun h=>by simp [jl] at h⟩
theorem MW {pr:Bool}{w n:Nat}{R:Rk}{pm nw:List dg}{b:List UInt8}{mo:Ob}(hb:b.length=8064)(hc:uc pm nw 8 (jl b) mo)(gV:dv pr w n R (pm++nw))(j:Nat):mo.byte (ke (pm++nw)) j=(b[j]?).getD 0:=by
 have pv:mo.fresh=[]:=(hc.To.cl hc.clean).1
 have hm:=Nat.mod_lt j (show 0<1024 by omega)
 have aaR:mo.raw (ke (pm++nw)) (j / 1024)=if cY mo.aA (j / 1024)=ai then [] else ke (pm++nw) (cY mo.aA (j / 1024)):=by rw [dx,pv];rfl
 have UN:(b[j]?).getD 0=((((b.drop (j / 1024*1024)).take 1024))[j % 1024]?).getD 0:=by
  rw [getElem?_take,if_pos hm,getElem?_drop,show j / 1024*1024+j % 1024=j by omega]
 have h8:(jV 1024 b).length=8:=by rw [dN,hb];rfl
 unfold Ob.byte
 rw [aaR]
 have iy:aJ (jl b).fresh ((j / 1024:Nat):Int)=(fm b)[j / 1024]?:=R8 _ _
 by_cases c:j / 1024<8
 ·have hs:(fm b)[j / 1024]? = some (ei ((b.drop (j / 1024*1024)).take 1024)):=by
   rw [fm,getElem?_map,getElem?_eq_getElem oZ,l5];rfl
  rw [hs] at iy
  rcases hc.put _ _ iy with ⟨c1,c2⟩ | ⟨c1,c2,e,he,c3,c4⟩
  ·rw [if_pos c1,UN]
   rw [iF,fO] at c2
   rw [rG c2];rfl
  ·rw [if_neg c1,<-c3,xA gV (mem_append_right _ he),c4,UN]
   rw [iF] at c2
   rw [nu c2]
 ·rw [getElem?_eq_none (by simp [fm,dN,hb,dh];omega)] at iy
  have:=hc.dr _ iy
  have e:b[j]? = none:=getElem?_eq_none oZ
  rw [if_pos (by rw [this];exact iX (Nat.zero_le _)),e];rfl
section
variable {pr:Bool}{n q ae:Nat}{ls:List (Option Lv)}{P P2:PS}{pm:List dg}{all os:List (Int×Ob)}{l:List aw}{od ds:List (Int×List Pt)}{fs:List Pt}{mo:Ob}{ks:List Int}
theorem xF (hI:pB ls)(hn:324<=n/\n<=2048)(hw:1<=ls.length/\ls.length<=5)(hp:pr=true->3<=ls.length)(ht:1<=ae/\ae+1<=281474976710656)(h:J5 pr ls n ae all od P ks os ds P2 mo fs)(hs:NQ pr n ls P pm)(ha:bM pm all l)
  (No:NS (bD pr ls.length n) (aL pr ls.length 1024) q ae P.x pm) (NP:∀x,x∈aY od↔∃e∈pm,e.x=x) (hq:pm.length<=q) (Tj:aT l+10<=q) :
  ∃fD,uL fD os mo (l.map (jC (ae+1)))/\(∀x,x∈aY ds↔∃e∈fD,e.x=x)/\fD.length<=q/\NS (bD pr ls.length n) (aL pr ls.length 1024) q (ae+1) ((bA (ae+1) P2.x (aL pr ls.length 1024) fs).sync ((ae+1:Nat):Int)) fD/\dv pr ls.length n P2.R fD/\rF n P.R P2.R/\(∀e∈ds,e.2.length<=200)/\(∀x,x∈aY ds↔x∈eg mo\/∃k o,aJ os k=some o/\x∈eg o)/\fK mo.root=0/\mo.root.Ok/\mo.root.bg<=ae+1:=by
 obtain ⟨P1,VQ,hk,h1,h2,rfl,xV,ya,tW⟩:=h
 have eV:1<=ae+1/\ae+1<=281474976710656:=oZ
 have AX:ks.Nodup:=hk.nodup_iff.2 ha.kn
 have ED:=h1.go.trans h2.go
 have mA:=h1.keys
 obtain ⟨n1,g1,g2,g3,rfl⟩:=iu.grow hI hn hw hp eV h1 hs (fun k o ho=>by
  rcases ha.keys k with ⟨c, -⟩ | ⟨o',d,c1, -,c3, -⟩
  ·rw [ho] at c;cases c
  ·rw [ho] at c1;cases c1;exact c3) AX
 have Ts:(fM (slotsOf os)).length=8064:=by rw [lj,ej]
 obtain ⟨n2,k1,k2,k3⟩:=nM.grow hI hn hw hp eV h2 g1.tF (xE (pm++n1) Ts)
 have hrt:=(nM.RA (NL:=Ij 8) (ir pr hw hn).2 eV dZ ((xE (pm++n1) Ts).V8 g1.tF.po) h2).2.2.2
 have hg:=g1.trans k1
 have k3:=k3.pre
 have nC:=hg.tF.po
 have QY:os.map (·.1)=ks:=mA.1
 have jD:=ha.cm hk QY (fun k hk=>by
  obtain ⟨o,o',c1,c2,c3⟩:=g2 k hk
  exact ⟨o,o',c1,c2,c3.app⟩) (nw:=n1++n2) nC hg.bg
 have db:(os.map (·.1)).Nodup:=jD.kn
 have hoc:∀k o,aJ os k=some o->o.clean=true/\dw (pm++(n1++n2)) (dh o.size 1024) o/\o.size<=65536:=fun k o ho=>by
  have hk1:k∈ks:=by rw [<-QY];exact mem_map.2 ⟨_,aI ho,rfl⟩
  obtain ⟨p,p',c1,c2,c3⟩:=g2 k hk1
  rw [ho] at c2;cases c2
  rcases jD.keys k with ⟨c, -⟩ | ⟨o',d,e1, -,e3,e4⟩
  ·rw [ho] at c;cases c
  ·rw [ho] at e1;cases e1;exact ⟨c3.clean,e3,e4.sz⟩
 have X8:∀e∈os,aJ os e.1=some e.2:=fun e he=>mj db he
 obtain ⟨D,hD⟩:∃D,D=os.map (fun e=>(e.1,eg e.2))++[(0,bL (mo.aA++mo.index))]:=⟨_,rfl⟩
 have hDm:∀x,x∈aY D↔(∃e∈os,x∈eg e.2)\/x∈eg mo:=fun x=>by rw [hD];exact MV
 rw [<-hD] at ya ⊢
 have eF:∀e∈n1++n2,e.x∈aY D:=fun e he=>by
  have ey:e.x≠ai:=fun h0=>by
   have:=(nC.FB e (mem_append_right _ he)).cJ
   rw [h0] at this
   exact absurd this.2.2.2.2.1 (by simp [ai])
  rw [hDm]
  rcases List.mem_append.1 he with he | he
  ·obtain ⟨k, -,o',c1,c2⟩:=g3 e he
   exact .inl ⟨(k,o'),aI c1,gX.2 ⟨List.mem_append.2 c2,ey⟩⟩
  ·exact .inr (gX.2 ⟨List.mem_append.2 (k2 e he),ey⟩)
 have hDe:∀x∈aY D,∃e∈pm++(n1++n2),e.x=x:=fun x hx=>by
  rcases (hDm x).1 hx with ⟨e,he,hx⟩ | hx
  ·obtain ⟨c1,c2, -⟩:=hoc _ _ (X8 e he)
   exact FI c2 c1 x hx
  ·exact FI k3.To k3.clean x hx
 have xg:∀x,x∈aY D↔x∈eg mo\/∃k o,aJ os k=some o/\x∈eg o:=fun x=>by
  rw [hDm]
  constructor
  ·rintro (⟨e,he,hx⟩ | hx)
   ·exact .inr ⟨_,_,X8 e he,hx⟩
   ·exact .inl hx
  ·rintro (hx | ⟨k,o,ho,hx⟩)
   ·exact .inr hx
   ·exact .inl ⟨_,aI ho,hx⟩
 obtain ⟨fD,xD⟩:∃p,p=(pm++(n1++n2)).filter fun e=>decide (e.x∈aY D):=⟨_,rfl⟩
 have jv:∀e∈fD,e∈pm++(n1++n2):=fun e he=>by rw [xD] at he;exact (mem_filter.1 he).1
 have Gc:∀x,x∈aY D↔∃e∈fD,e.x=x:=fun x=>by
  constructor
  ·intro hx
   obtain ⟨e,he,rfl⟩:=hDe x hx
   exact ⟨e,by rw [xD];exact mem_filter.2 ⟨he,by simpa using hx⟩,rfl⟩
  ·rintro ⟨e,he,rfl⟩
   rw [xD] at he
   simpa using (mem_filter.1 he).2
 have Wg:dv pr ls.length n P2.R fD:=by rw [xD];exact nC.filter _
 have ng:=No.cm hg ED.ge.fV NP eF xV ya tW hq ht.1
 rw [<-xD] at ng
 have hlO:∀e∈os,(eg e.2).length<=cost e.2.size:=fun e he=>by
  obtain ⟨c1,c2,c3⟩:=hoc _ _ (X8 e he)
  exact Nat.le_trans (rH c2 c1) (Io c3)
 have hlM:(eg mo).length<=10:=rH k3.To k3.clean
 have mU:fD.length<=q:=by
  have h1:(fD.map (·.x)).Nodup:=pairwise_map.2 (Wg.inj.imp fun h e=>h (by rw [e]))
  have h2:=fQ (l:=fD.map (·.x)) (m:=aY D) h1 fun x hx=>by
   obtain ⟨e,he,rfl⟩:=mem_map.1 hx
   exact (Gc _).2 ⟨e,he,rfl⟩
  rw [length_map,hD,R7] at h2
  have h3:(os.map fun e=>(eg e.2).length).sum<=eW os:=by
   have:∀L:List (Int×Ob),(∀e∈L,(eg e.2).length<=cost e.2.size)->(L.map fun e=>(eg e.2).length).sum<=eW L:=by
    intro L
    induction L with
    | nil=>intro _;exact Nat.zero_le _
    | cons e r ih =>
     intro h
     have a1:=h e (mem_cons_self ..)
     have a2:=ih fun x hx=>h x (mem_cons_of_mem _ hx)
     simp only [eW,map_cons,sum_cons] at *
     omega
   exact this os hlO
  have h4:=jD.used
  have h5:aT (l.map (jC (ae+1)))=aT l:=by
   unfold aT
   rw [map_map]
   congr 1
   refine map_congr_left fun d _ => ?_
   simp only [Function.comp]
   rw [show (jC (ae+1) d).b=d.b from (cA _ d 64).2.1]
  have h6:(bL (mo.aA++mo.index)).length<=10:=hlM
  simp only at h2
  omega
 have jH:∀ {N:Nat} {o:Ob},dw (pm++(n1++n2)) N o->(∀x∈eg o,x∈aY D)->(∀x∈o.aA,x≠ai->∃e∈fD,e.x=x)/\∀x∈o.index,x≠ai->∃e∈fD,e.x=x:=fun h hl=>⟨fun x hx ey=>(Gc x).1 (hl x (gX.2 ⟨mem_append_left _ hx,ey⟩)),fun x hx ey=>(Gc x).1 (hl x (gX.2 ⟨mem_append_right _ hx,ey⟩))⟩
 refine ⟨fD,⟨⟨fun k => ?_,jD.kn,jD.ord,jD.no⟩,fun k o ho=>(hoc k o ho).1,k3.clean, ?_,fun j => ?_⟩,Gc,mU,ng,Wg,hg.dat,fun e he => ?_,xg,hrt.1.1,hrt.1.2,hrt.2.2.2⟩
 ·rcases jD.keys k with c | ⟨o,d,c1,c2,c3,c4⟩
  ·exact .inl c
  ·have hl:=jH c3 fun x hx=>(hDm x).2 (.inl ⟨(k,o),aI c1,hx⟩)
   exact .inr ⟨o,d,c1,c2,c3.sub nC jv hl.1 fun _=>hl.2,c4.sub nC Wg jv hl.1⟩
 ·have hl:=jH k3.To fun x hx=>(hDm x).2 (.inr hx)
  exact k3.To.sub nC jv hl.1 fun _=>hl.2
 ·have hl:=jH k3.To fun x hx=>(hDm x).2 (.inr hx)
  rw [FJ nC Wg jv hl.1]
  have:=MW (pm:=pm) (nw:=n1++n2) Ts k3 nC j
  exact this
 ·rw [hD] at he
  rcases List.mem_append.1 he with he | he
  ·obtain ⟨f,hf,rfl⟩:=mem_map.1 he
   obtain ⟨-, -,c3⟩:=hoc _ _ (X8 f hf)
   have:=hlO f hf
   have:=l7 c3
   simp only;omega
  ·rw [mem_singleton.1 he]
   have:(bL (mo.aA++mo.index)).length<=10:=hlM
   simp only;omega
end
end Go.Sl
