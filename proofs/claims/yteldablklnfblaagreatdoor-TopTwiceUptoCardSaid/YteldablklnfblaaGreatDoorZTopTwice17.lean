/-
  Texts put together (17).
-/
import Derived.Test.YteldablklnfblaaGreatDoorZTopTwice16
namespace Go.Sl
def th (b:List UInt8)(k:Nat):Bool:=bp ((b.drop (1024*k)).take 1024)
def Sn (T:Nat)(o:au)(k:Nat):au:=if o.gE k=true then { o with gE:=upd o.gE k false,born:=upd o.born k (if th o.b k then 0 else T) } else o
def xO (T:Nat)(o:au):Nat->au
 | 0=>o
 | k+1=>Sn T (xO T o k) k
def lO (T:Nat)(o:au):au:=xO T o 64
theorem QZ (T:Nat)(o:au)(k:Nat):(Sn T o k).no=o.no/\(Sn T o k).b=o.b/\(Sn T o k).v=o.v:=by unfold Sn;split <;> exact ⟨rfl,rfl,rfl⟩
theorem dq (T:Nat)(o:au):∀k,(xO T o k).no=o.no/\(xO T o k).b=o.b/\(xO T o k).v=o.v
 | 0=>⟨rfl,rfl,rfl⟩
 | k+1=>by
  have h1:=QZ T (xO T o k) k
  have h2:=dq T o k
  exact ⟨h1.1.trans h2.1,h1.2.1.trans h2.2.1,h1.2.2.trans h2.2.2⟩
theorem Va {α:Type}(f:Nat->α)(k:Nat)(x y:α):upd (upd f k x) k y=upd f k y:=by
 funext j
 unfold upd
 by_cases c:j=k
 ·rw [if_pos c,if_pos c]
 ·rw [if_neg c,if_neg c,if_neg c]
theorem LL {b:List UInt8}{k:Nat}(h:b.length<=1024*k):th b k=true:=by
 unfold th
 rw [List.drop_eq_nil_of_le h];rfl
theorem xP {L:List au}{g:au->au}{i:Nat}{o:au}(h:L[i]? = some o):((L.take i).map g++L.drop i).set i (g o)=(L.take (i+1)).map g++L.drop (i+1):=by
 have hi:=(List.getElem?_eq_some_iff.1 h).1
 have e:L[i]=o:=(List.getElem?_eq_some_iff.1 h).2
 have hl:((L.take i).map g).length=i:=by rw [List.length_map,List.length_take];omega
 rw [List.set_append_right _ _ oZ,hl,Nat.sub_self,List.drop_eq_getElem_cons hi,List.set_cons_zero,aG L hi,List.map_append,e,List.append_assoc];rfl
theorem EH {L:List au}{g:au->au}{i:Nat}{o:au}(h:L[i]? = some o):((L.take i).map g++L.drop i)[i]? = some o:=by
 have hi:=(List.getElem?_eq_some_iff.1 h).1
 have hl:((L.take i).map g).length=i:=by rw [List.length_map,List.length_take];omega
 rw [List.getElem?_append_right oZ,hl,Nat.sub_self,List.getElem?_drop];exact h
end Go.Sl
namespace Go.Proofs.YteldablklnfblaaGreatDoor
open Go.Sl
set_option maxRecDepth 10000
set_option maxHeartbeats 4000000
theorem Hx (a:Nat)(l:List au)(aQ:mO l)(txg note room dT:Nat)(AO:txg+1<18446744073709551616)(G:List UInt8)(adG:Option Addr)(cG:Nat)(DG:Chunk)(hG:Rd DG 1 (.slice adG 22528 cG) 22528 (ak G))(vS:Value)(ad:Option Addr)(c:Nat)(D O:Chunk)(hH:Jd D (.slice ad l.length c) l.length (l.flatMap au.lay))(hO:Ed O l) :
  Ct 50 [ptr a,.int .u64 dT] [[(a,eM (.slice ad l.length c) txg note room (.slice adG 22528 cG) vS)],D,O,DG] fun _ Bs=>∃D' bI cS DS,Jd D' (.slice ad l.length c) l.length ((l.map (lO (txg+1))).flatMap au.lay)/\az DS 5 1 (.slice bI 22528 cS) 22528 (ak G)/\Bs=[[(a,eM (.slice ad l.length c) (txg+1) dT room (.slice adG 22528 cG) (.slice bI 22528 cS))],D',O,DG,DS]:=by
 have nP:=aQ.jY
 have nL:IntKind.u64.wrap ((txg:Int)+1)=((txg+1:Nat):Int):=by rw [IntWalk.u64_in _ oZ];omega
 obtain ⟨T,hT⟩:∃T,T=txg+1:=⟨_,rfl⟩
 rw [<-hT] at nL ⊢
 by_cases h0:l.length=0
 ·obtain rfl:=List.eq_nil_of_length_eq_zero h0
  refine st Tryz.func50 fun w0 => ?_
  refine gl [0] (fun _:Nat=>[(4,.int .i64 0)]) (fun _=>[]) (fun _=>True) (fun _=>0) 0 trivial ?_
  rintro i -
  refine gp ?_;intro bI cS DS UG
  refine gz ?_
  exact fin ⟨D,bI,cS,DS,hH,UG,rfl⟩ aa
 ·rcases hH.2 with h | ⟨g,c',r,hv,rfl⟩
  ·exact absurd h h0
  cases hv
  refine st Tryz.func50 fun w0 => ?_
  refine gl [0] (fun i:Nat=>[(4,.int .i64 i)]) (fun i=>[[(g,ax (((l.take i).map (lO T)++l.drop i).flatMap au.lay++r) 72)]]) (fun i=>i<=l.length) (fun i=>l.length - i) 0 oZ ?_
  intro i hi
  refine gi ?_ ?_ <;> intro bo
  ·have bm:i<l.length:=by omega
   obtain ⟨o,ho⟩:∃o,l[i]? = some o:=⟨_,List.getElem?_eq_getElem bm⟩
   have qR:=List.mem_of_getElem? ho
   have gA:=EH (g:=lO T) ho
   have sJ:=xP (g:=lO T) ho
   obtain ⟨L,hL⟩:∃L,L=(l.take i).map (lO T)++l.drop i:=⟨_,rfl⟩
   have hLl:L.length=l.length:=by rw [hL,List.length_append,List.length_map,List.length_take,List.length_drop];omega
   rw [<-hL] at gA sJ ⊢
   have fm:∀x,(L.set i x)[i]? = some x:=fun x=>by rw [List.getElem?_set_self oZ]
   have xp:L=L.set i (xO T o 0):=by
    apply List.ext_getElem?
    intro j
    by_cases c:i=j
    ·subst c;rw [gA,fm];rfl
    ·rw [List.getElem?_set_ne c]
   have Bm:=aQ.sm o qR
   obtain ⟨⟨j8,cv,hv,R3⟩,MG⟩:=hO o qR
   rw [hv] at MG
   rw [xp]
   refine gl [0,4] (fun k:Nat=>[(5,.int .i64 k)]) (fun k=>[[(g,ax ((L.set i (xO T o k)).flatMap au.lay++r) 72)]]) (fun k=>k<=64) (fun k=>64 - k) 0 oZ ?_
   intro k hk
   refine gi ?_ ?_ <;> intro pL
   ·have QB:k<64:=by omega
    obtain ⟨MJ,aeZ⟩:∃q,q=xO T o k:=⟨_,rfl⟩
    have x8:=dq T o k
    have qN:xO T o (k+1)=Sn T (xO T o k) k:=rfl
    rw [<-aeZ] at x8 qN ⊢
    have hlen:=AG (L.set i MJ) r
    rw [List.length_set,hLl] at hlen
    have I8:=sK (r:=r) (fm MJ) (MJ.I1 QB)
    rw [<-Nat.add_assoc] at I8
    cases P9:MJ.gE k with
    | false =>
     have qN:xO T o (k+1)=MJ:=by rw [qN,Sn,if_neg (by rw [P9];simp)]
     rw [P9] at I8
     refine gn ?_
     exact ⟨k+1,by omega,by omega,aq,_,by rw [qN];exact aa⟩
    | true =>
     rw [P9] at I8
     obtain ⟨s1,xu⟩:∃s1:au,s1={ MJ with gE:=upd MJ.gE k false }:=⟨_,rfl⟩
     obtain ⟨s2,lX⟩:∃s2:au,s2={ s1 with born:=upd s1.born k T }:=⟨_,rfl⟩
     obtain ⟨s3,hs3⟩:∃s3:au,s3={ s1 with born:=upd s1.born k 0 }:=⟨_,rfl⟩
     have ae0:th o.b k=false->xO T o (k+1)=s2:=fun h=>by rw [qN,Sn,if_pos P9,show th MJ.b k=false by rw [x8.2.1];exact h,if_neg (by simp),lX,xu]
     have aci:th o.b k=true->xO T o (k+1)=s3:=fun h=>by rw [qN,Sn,if_pos P9,show th MJ.b k=true by rw [x8.2.1];exact h,if_pos rfl,hs3,xu]
     have e1:=jc (r:=r) (o:=MJ) (o':=s1) (v:=.bool false) (j:=66+k) oZ (by rw [xu];exact au.tN _ QB _) (fm MJ)
     have e2:=jc (r:=r) (o:=s1) (o':=s2) (v:=.int .u64 T) (j:=2+k) oZ (by rw [lX];exact au.wk _ QB _) (fm s1)
     have e3:=jc (r:=r) (o:=s2) (o':=s3) (v:=.int .u64 0) (j:=2+k) oZ (by rw [hs3,lX];exact (au.wk _ QB 0).trans (by rw [Va])) (fm s2)
     have hv2:=sK (r:=r) (fm s2) (show s2.lay[1]? = some (.slice j8 o.b.length cv) by rw [<-hv,<-x8.2.2,lX,xu];exact au.rM _)
     rw [<-Nat.add_assoc,List.set_set] at e1 e2 e3
     rw [<-e2,<-e1] at hv2
     obtain ⟨C0,Tq⟩:∃C0,C0=(L.set i MJ).flatMap au.lay++r:=⟨_,rfl⟩
     rw [<-Tq] at I8 hlen hv2 e1 ⊢
     have tt:(C0.set (i*130+66+k) (.bool false)).length=l.length*130+r.length:=by rw [List.length_set];exact hlen
     have jj:((C0.set (i*130+66+k) (.bool false)).set (i*130+2+k) (.int .u64 T)).length=l.length*130+r.length:=by rw [List.length_set];exact tt
     have e12:(C0.set (i*130+66+k) (.bool false)).set (i*130+2+k) (.int .u64 T)=(L.set i s2).flatMap au.lay++r:=by rw [e1];exact e2
     have acj:((C0.set (i*130+66+k) (.bool false)).set (i*130+2+k) (.int .u64 T)).set (i*130+2+k) (.int .u64 0)=(L.set i s3).flatMap au.lay++r:=by rw [e12];exact e3
     by_cases xX:o.b.length<=1024*k
     ·have qN:=aci (LL xX)
      refine gn ?_
      rw [acj]
      exact ⟨k+1,by omega,by omega,aq,_,by rw [qN];exact aa⟩
     ·obtain ⟨q,hq⟩:∃q,q=min (1024*k+1024) o.b.length - 1024*k:=⟨_,rfl⟩
      have dr:∀q',q'=min (1024*k+1024) o.b.length->((ak o.b).drop (1024*k*1)).take ((q' - 1024*k)*1)=ak ((o.b.drop (1024*k)).take 1024):=fun q' h=>by
       rw [Nat.mul_one,Nat.mul_one,aY,aL]
       congr 1
       apply List.ext_getElem?
       intro j
       rw [List.getElem?_take,List.getElem?_take]
       by_cases c1:j<q' - 1024*k
       ·rw [if_pos c1,if_pos oZ]
       ·rw [if_neg c1]
        split
        ·rw [List.getElem?_eq_none (by rw [List.length_drop];omega)]
        ·rfl
      have ae1:((o.b.drop (1024*k)).take 1024).length=q:=by rw [List.length_take,List.length_drop];omega
      have uG:=fun v hv=>Lt v O ((o.b.drop (1024*k)).take 1024) q ae1 hv
      rw [show bp ((o.b.drop (1024*k)).take 1024)=th o.b k from rfl] at uG
      by_cases hb4:o.b.length<1024*k+1024
      case' pos =>
       have ou:=dr o.b.length oZ
       have hnq:o.b.length - 1024*k=q:=by omega
      case' neg =>
       have ou:=dr (1024*k+1024) oZ
       have hnq:1024*k+1024 - 1024*k=q:=by omega
      all_goals
       refine gw ?_;intro fL zK
       refine gc (uG _ zK) ?_
       rintro _ _ ⟨rfl,rfl⟩
       cases Hd:th o.b k with
       | true =>
        have qN:=aci Hd
        refine gn ?_
        rw [acj]
        exact ⟨k+1,by omega,by omega,aq,_,by rw [qN];exact aa⟩
       | false =>
        have qN:=ae0 Hd
        refine gn ?_
        rw [e12]
        exact ⟨k+1,by omega,by omega,aq,_,by rw [qN];exact aa⟩
   ·obtain rfl:k=64:=by omega
    refine gn ?_
    have ae2:(l.take (i+1)).map (lO T)++l.drop (i+1)=L.set i (xO T o 64):=sJ.symm
    exact ⟨i+1,by omega,by omega,aq,_,by rw [ae2];exact aa⟩
  ·obtain rfl:i=l.length:=by omega
   rw [List.take_length,List.drop_length,List.append_nil]
   refine gp ?_;intro bI cS DS UG
   refine gz ?_
   have fG:∀u∈(l.map (lO T)).flatMap au.lay,u.oneCell'=true:=fun u hu=>by
    obtain ⟨x,hx,hu⟩:=List.mem_flatMap.1 hu
    obtain ⟨y,hy,rfl⟩:=List.mem_map.1 hx
    obtain ⟨⟨j8,cv,hv, -⟩, -⟩:=hO y hy
    exact au.bC _ (by rw [show (lO T y).v=y.v from (dq T y 64).2.2,hv];rfl) u hu
   refine fin ⟨_,bI,cS,DS,⟨⟨by rw [fN au.aj,List.length_map],fG,by simp only [maxLen];omega,.inr ⟨g,0,c,_,_,_,rfl,List.mem_singleton.2 rfl,fun j u hu => ?_⟩⟩,.inr ⟨g,c,r,rfl,rfl⟩⟩,UG,rfl⟩ aa
   rw [Nat.zero_add,List.getElem?_toArray,List.getElem?_append_left (List.getElem?_eq_some_iff.1 hu).1];exact hu
end Go.Proofs.YteldablklnfblaaGreatDoor
namespace Go.Sl
set_option maxRecDepth 10000
def j2 (pm:List dt)(x:Pt):List UInt8:=match pm.find? fun e=>decide (e.x=x) with
 | some e=>e.b
 | none=>[]
def fg (pm:List dt)(x:Pt):List Pt:=match pm.find? fun e=>decide (e.x=x) with
 | some e=>e.g
 | none=>[]
section
variable {pr:Bool}{w n:Nat}{R:Rk}{pm nw:List dt}{e:dt}{x:Pt}
theorem Q0 (h:dU pr w n R pm)(he:e∈pm):pm.find? (fun f=>decide (f.x=e.x))=some e:=by
 cases hf:pm.find? fun f=>decide (f.x=e.x) with
 | none =>
  rw [List.find?_eq_none] at hf
  exact absurd (hf e he) (by simp)
 | some f =>
  have h1:=List.mem_of_find?_eq_some hf
  have h2:f.x=e.x:=by simpa using List.find?_some hf
  rw [h.one h1 he (by rw [h2])]
theorem wP (h:dU pr w n R pm)(he:e∈pm):j2 pm e.x=e.b:=by unfold j2;rw [Q0 h he]
theorem wQ (h:dU pr w n R pm)(he:e∈pm):fg pm e.x=e.g:=by unfold fg;rw [Q0 h he]
theorem Vb (h:∃e∈pm,e.x=x):(pm++nw).find? (fun f=>decide (f.x=x))=pm.find? fun f=>decide (f.x=x):=by
 rw [List.find?_append]
 cases hf:pm.find? fun f=>decide (f.x=x) with
 | none =>
  rw [List.find?_eq_none] at hf
  obtain ⟨e,he,c⟩:=h
  exact absurd (hf e he) (by simpa using c)
 | some f=>rfl
theorem Vc (h:∃e∈pm,e.x=x):j2 (pm++nw) x=j2 pm x:=by unfold j2;rw [Vb h]
end
theorem de (rd:Pt->List UInt8)(o:Ob)(i:Nat):o.raw rd i=match aH o.fresh (i:Int) with
 | some b=>b
 | none=>if cJ o.ay i=ah then [] else rd (cJ o.ay i):=by
 unfold Ob.raw cJ
 cases aH o.fresh (i:Int) with
 | some b=>rfl
 | none=>cases o.ay[i]? <;> simp
structure dW (pm:List dt)(o:Ob)(d:au):Prop where
 us:o.used=true
 size:o.size=d.b.length
 sz:o.size<=65536
 fp:∀e∈o.fresh,1<=e.2.length
 byte:∀j,o.byte (j2 pm) j=(d.b[j]?).getD 0
 gE:∀i:Nat,i<64->(aH o.fresh (i:Int)).isSome=d.gE i
 born:∀i:Nat,i<64->d.gE i=false->(cJ o.ay i).bh=d.born i
theorem Hy (T:Nat)(o:au)(k:Nat):∀n,(xO T o n).gE k=(if k<n then false else o.gE k)/\(xO T o n).born k=(if k<n/\o.gE k=true then (if th o.b k then 0 else T) else o.born k)
 | 0=>by simp [xO]
 | n+1=>by
  obtain ⟨h1,h2⟩:=Hy T o k n
  obtain ⟨s1,s2,s3⟩:=dq T o n
  unfold xO Sn
  have rest:∀x y:Nat,¬k=n->((if k<n then false else o.gE k)=(if k<n+1 then false else o.gE k))/\((if k<n/\o.gE k=true then x else y)=(if k<n+1/\o.gE k=true then x else y)):=fun x y e=>by
   by_cases c:k<n
   ·have c2:k<n+1:=by omega
    simp [c,c2]
   ·have c2:¬k<n+1:=by omega
    simp [c,c2]
  by_cases hc:(xO T o n).gE n=true
  ·rw [if_pos hc]
   by_cases e:k=n
   ·subst e
    rw [h1,if_neg oZ] at hc
    have c2:k<k+1:=by omega
    simp [upd,s2,hc]
   ·simp only [upd,if_neg e]
    rw [h1,h2]
    exact rest _ _ e
  ·rw [if_neg hc]
   have hc:(xO T o n).gE n=false:=by simpa using hc
   by_cases e:k=n
   ·subst e
    have h0:=hc
    rw [h1,if_neg oZ] at h0
    rw [hc,h2]
    simp [h0]
   ·rw [h1,h2]
    exact rest _ _ e
theorem qD {b:List UInt8}(h:∀y∈b,y=0)(j:Nat):(b[j]?).getD 0=0:=by
 cases hb:b[j]? with
 | none=>rfl
 | some y=>exact h y (List.mem_of_getElem? hb)
theorem EI {b:List UInt8}{N:Nat}(hN:b.length<=N)(h:∀j,j<N->(b[j]?).getD 0=0):∀y∈b,y=0:=fun y hy=>by
 obtain ⟨i,hi,rfl⟩:=List.getElem_of_mem hy
 have:=h i oZ
 rw [List.getElem?_eq_getElem hi] at this
 exact this
theorem wS (rd:Pt->List UInt8)(o:Ob)(i j:Nat)(hj:j<1024):o.byte rd (i*1024+j)=((o.raw rd i)[j]?).getD 0:=by
 unfold Ob.byte
 rw [show (i*1024+j) / 1024=i by omega,show (i*1024+j) % 1024=j by omega]
theorem dW.blank {pm:List dt}{o:Ob}{d:au}(h:dW pm o d){i:Nat}{b:List UInt8}(hb:aH o.fresh (i:Int)=some b)(hl:b.length<=1024):bp b=th d.b i:=by
 have hr:o.raw (j2 pm) i=b:=by rw [de,hb]
 have hj:∀j,j<1024->(b[j]?).getD 0=(((d.b.drop (1024*i)).take 1024)[j]?).getD 0:=fun j hj=>by
  rw [<-hr,<-wS _ _ _ _ hj,h.byte,List.getElem?_take,if_pos hj,List.getElem?_drop,Nat.mul_comm 1024 i]
 rw [th,Bool.eq_iff_iff,fw,fw]
 constructor
 ·intro hz
  exact EI (N:=1024) (by rw [List.length_take];omega) fun j zo=>by rw [<-hj j zo];exact qD hz j
 ·intro hz
  exact EI hl fun j zo=>by rw [hj j zo];exact qD hz j
theorem dW.cm {pr:Bool}{w n N T:Nat}{R:Rk}{pm nw:List dt}{o o':Ob}{d:au}(h:dW pm o d)(hi:db pm N o)(hc:tg pm nw N o o')(fZ:dU pr w n R (pm++nw))(hT:∀e∈nw,e.x.bh=T):dW (pm++nw) o' (lO T d):=by
 obtain ⟨s1,s2,s3⟩:=dq T d 64
 have pg:o'.fresh=[]:=(hc.Sm.cl hc.clean).1
 have aal:∀i:Nat,o'.raw (j2 (pm++nw)) i=if cJ o'.ay i=ah then [] else j2 (pm++nw) (cJ o'.ay i):=fun i=>by rw [de,pg];rfl
 refine ⟨by rw [hc.used];exact h.us,by rw [hc.size,h.size];exact congrArg List.length s2.symm,by rw [hc.size];exact h.sz,(by rw [pg];intro e he;cases he),fun j => ?_,fun i wq => ?_,fun i wq _ => ?_⟩
 ·rw [show (lO T d).b=d.b from s2,<-h.byte j]
  have e:j=j / 1024*1024+j % 1024:=by omega
  have hm:=Nat.mod_lt j (show 0<1024 by omega)
  rw [e,wS _ _ _ _ hm,wS _ _ _ _ hm,aal,de]
  cases hf:aH o.fresh ((j / 1024:Nat):Int) with
  | none =>
   simp only
   rw [hc.dg _ hf]
   split
   ·rfl
   ·rename_i eL
    have:∃e∈pm,e.x=cJ o.ay (j / 1024):=by
     rcases lN (l:=o.ay) (i:=j / 1024) with c | c
     ·exact absurd c eL
     ·exact (hi.ptr _ c).resolve_left eL
    rw [Vc this]
  | some b =>
   simp only
   rcases hc.put _ b hf with ⟨c1,c2⟩ | ⟨c1, -,f,hf',c3,c4⟩
   ·rw [if_pos c1,qD (fw.1 c2)];rfl
   ·rw [if_neg c1,<-c3,wP fZ (List.mem_append_right _ hf'),c4]
 ·rw [pg,show (lO T d).gE i=false by rw [lO,(Hy T d i 64).1,if_pos wq]];rfl
 ·rw [lO,(Hy T d i 64).2]
  have ht:=h.gE i wq
  cases hf:aH o.fresh (i:Int) with
  | none =>
   rw [hf] at ht
   have ht:d.gE i=false:=by rw [<-ht];rfl
   rw [if_neg (by rw [ht];simp),hc.dg i hf]
   exact h.born i wq ht
  | some b =>
   rw [hf] at ht
   have ht:d.gE i=true:=by rw [<-ht];rfl
   have dr:=h.blank hf (hi.fk _ (aI hf)).2.2
   rw [if_pos ⟨wq,ht⟩]
   rcases hc.put i b hf with ⟨c1,c2⟩ | ⟨c1,c2,f,hf',c3, -⟩
   ·rw [<-dr,c2,if_pos rfl,c1];rfl
   ·rw [<-dr,c2,if_neg (by simp),<-c3];exact hT f hf'
structure bF (pm:List dt)(all:List (Int×Ob))(l:List au):Prop where
 keys:∀k:Int,(aH all k=none/\ey l k=none)\/∃o d,aH all k=some o/\ey l k=some d/\db pm (cY o.size 1024) o/\dW pm o d
 kn:(all.map (·.1)).Nodup
 ord:l.Pairwise fun a b=>a.no<b.no
 no:∀d∈l,1<=d.no/\d.no<=112
theorem rY {l:List au}(h:l.Pairwise fun a b=>a.no<b.no){d:au}(hd:d∈l):ey l (d.no:Int)=some d:=by
 induction l with
 | nil=>cases hd
 | cons x r ih =>
  rw [List.pairwise_cons] at h
  unfold ey at *
  rcases List.mem_cons.1 hd with rfl | hd
  ·rw [List.find?_cons_of_pos (by simp)]
  ·have:=h.1 d hd
   rw [List.find?_cons_of_neg (by simp;omega)]
   exact ih h.2 hd
section
variable {pm:List dt}{all:List (Int×Ob)}{l:List au}
theorem bF.perm (h:bF pm all l):(all.map (·.1)).Perm (l.map fun d=>(d.no:Int)):=by
 have dE:(l.map fun d=>(d.no:Int)).Nodup:=List.pairwise_map.2 (h.ord.imp fun h e=>by omega)
 refine (List.perm_ext_iff_of_nodup h.kn dE).2 fun k => ?_
 constructor
 ·intro hk
  obtain ⟨e,he,rfl⟩:=List.mem_map.1 hk
  have h1:=lK h.kn he
  rcases h.keys e.1 with ⟨c, -⟩ | ⟨o,d, -,c2, -⟩
  ·rw [h1] at c;cases c
  ·obtain ⟨c3,c4⟩:=fh c2
   exact List.mem_map.2 ⟨d,c3,c4⟩
 ·intro hk
  obtain ⟨d,hd,rfl⟩:=List.mem_map.1 hk
  have h1:=rY h.ord hd
  rcases h.keys (d.no:Int) with ⟨-,c⟩ | ⟨o,d',c1, -⟩
  ·rw [h1] at c;cases c
  ·exact List.mem_map.2 ⟨_,aI c1,rfl⟩
theorem bF.dl (h:bF pm all l):mO l:=by
 refine ⟨?_,fun d hd => ?_,fun d hd=>(h.no d hd).2⟩
 ·have dE:(l.map fun d=>d.no).Nodup:=List.pairwise_map.2 (h.ord.imp fun h e=>by omega)
  have h1:(l.map fun d=>d.no).length<=((List.range 112).map (· + 1)).length:=fx dE fun k hk=>by
   obtain ⟨d,hd,rfl⟩:=List.mem_map.1 hk
   have:=h.no d hd
   exact List.mem_map.2 ⟨d.no - 1,by simp;omega,by omega⟩
  simpa using h1
 ·rcases h.keys (d.no:Int) with ⟨-,c⟩ | ⟨o,d', -,c2, -,c3⟩
  ·rw [rY h.ord hd] at c;cases c
  ·rw [rY h.ord hd] at c2;cases c2
   rw [<-c3.size];exact c3.sz
theorem bF.cost (h:bF pm all l)(k:Int):fX all k=iC l k:=by
 unfold fX iC
 rcases h.keys k with ⟨c1,c2⟩ | ⟨o,d,c1,c2, -,c3⟩
 ·rw [c1,c2]
 ·rw [c1,c2];simp only;rw [c3.size]
theorem bF.used (h:bF pm all l):eI all=aT l:=by
 rw [yD h.kn,(h.perm.map _).sum_nat,List.map_map]
 unfold aT
 congr 1
 refine List.map_congr_left fun d hd => ?_
 simp only [Function.comp]
 rw [h.cost,iC,rY h.ord hd]
theorem bF.fits (h:bF pm all l)(k:Int)(size room:Nat):og all k size room=cA l k size room:=by
 unfold og cA
 rw [h.used,h.cost]
theorem AW (T:Nat)(k:Int):∀l:List au,ey (l.map (lO T)) k=(ey l k).map (lO T)
 | []=>rfl
 | x :: r=>by
  have ih:=AW T k r
  have hs:=(dq T x 64).1
  unfold ey at *
  rw [List.map_cons]
  by_cases c:(x.no:Int)=k
  ·rw [List.find?_cons_of_pos (by rw [lO,hs];simpa using c),List.find?_cons_of_pos (by simpa using c)];rfl
  ·rw [List.find?_cons_of_neg (by rw [lO,hs];simpa using c),List.find?_cons_of_neg (by simpa using c)];exact ih
theorem bF.cm {pr:Bool}{w n T:Nat}{R:Rk}{nw:List dt}{os:List (Int×Ob)}{ks:List Int}(h:bF pm all l)(hk:ks.Perm (all.map (·.1)))(PX:os.map (·.1)=ks)(hc:∀k∈ks,∃o o',aH all k=some o/\aH os k=some o'/\tg pm nw (cY o.size 1024) o o')(fZ:dU pr w n R (pm++nw))(hT:∀e∈nw,e.x.bh=T):bF (pm++nw) os (l.map (lO T)):=by
 refine ⟨fun k => ?_,by rw [PX];exact hk.nodup_iff.2 h.kn, ?_,fun d hd => ?_⟩
 ·rcases h.keys k with ⟨c1,c2⟩ | ⟨o,d,c1,c2,c3,c4⟩
  ·left
   refine ⟨j0 ?_,by rw [AW,c2];rfl⟩
   rw [PX,hk.mem_iff];exact qc c1
  ·right
   obtain ⟨p,p',g1,g2,g3⟩:=hc k (hk.mem_iff.2 (List.mem_map.2 ⟨_,aI c1,rfl⟩))
   rw [c1] at g1;cases g1
   refine ⟨p',lO T d,g2,by rw [AW,c2];rfl,by rw [g3.size];exact g3.Sm,c4.cm c3 g3 fZ hT⟩
 ·rw [List.pairwise_map]
  exact h.ord.imp fun {a b} c=>by rw [show (lO T a).no=a.no from (dq T a 64).1,show (lO T b).no=b.no from (dq T b 64).1];exact c
 ·obtain ⟨x,hx,rfl⟩:=List.mem_map.1 hd
  rw [show (lO T x).no=x.no from (dq T x 64).1];exact h.no x hx
end
structure Q1 (z m q txg:Nat)(x:Rm)(pm:List dt):Prop where
 ok:x.Ok (z:Int) (m:Int)
 nd:x.D.Nodup
 hd:∀e∈pm,aM m e.x∈x.D/\aM m e.x∉x.W
 ds:∀k∈x.D,k∈x.W\/∃e∈pm,aM m e.x=k
 gr:∀g∈x.fI,(g.1=(txg:Int)\/g.1+1=(txg:Int))/\g.2.length<=q
 gn:(x.fI.map (·.1)).Nodup
theorem Xg {α:Type}{q:Nat}:∀ {L:List (Int×List α)},(∀g∈L,g.2.length<=q)->(L.flatMap (·.2)).length<=L.length*q
 | [],_=>by simp
 | g :: r,h=>by
  have h1:=h g (List.mem_cons_self ..)
  have h2:=Xg (L:=r) fun x hx=>h x (List.mem_cons_of_mem _ hx)
  rw [List.flatMap_cons,List.length_append,List.length_cons,Nat.succ_mul];omega
theorem Q1.wl {z m q txg:Nat}{x:Rm}{pm:List dt}(h:Q1 z m q txg x pm):x.W.length<=2*q:=by
 have h1:=Xg (q:=q) (L:=x.fI) fun g hg=>(h.gr g hg).2
 have h2:(x.fI.map (·.1)).length<=[(txg:Int),(txg:Int) - 1].length:=fx h.gn fun k hk=>by
  obtain ⟨g,hg,rfl⟩:=List.mem_map.1 hk
  have:=(h.gr g hg).1
  simp only [List.mem_cons,List.not_mem_nil,or_false];omega
 simp only [List.length_map,List.length_cons,List.length_nil] at h2
 have h3:=Nat.mul_le_mul_right q h2
 unfold Rm.W
 omega
theorem Q1.dl {z m q txg:Nat}{x:Rm}{pm:List dt}(h:Q1 z m q txg x pm):x.D.length<=pm.length+2*q:=by
 have h1:=rU (l:=x.D) (m:=x.W++pm.map fun e=>aM m e.x) h.nd fun k hk=>by
  rcases h.ds k hk with c | ⟨e,he,c⟩
  ·exact List.mem_append_left _ c
  ·exact List.mem_append_right _ (List.mem_map.2 ⟨e,he,c⟩)
 have h2:=h.wl
 rw [List.length_append,List.length_map] at h1
 omega
theorem EJ {T:Int}{k:Nat}:∀ {L:List (Int×List Nat)},T∉L.map (·.1)->l4 L T k=L++[(T,[k])]
 | [],_=>rfl
 | (j,l) :: r,h=>by
  rw [List.map_cons,List.mem_cons,not_or] at h
  rw [l4,if_neg (fun e=>h.1 e.symm),EJ h.2];rfl
theorem EK {T:Int}{k:Nat}{q:List Nat}:∀ {L:List (Int×List Nat)},T∉L.map (·.1)->l4 (L++[(T,q)]) T k=L++[(T,q++[k])]
 | [],_=>by simp [l4]
 | (j,l) :: r,h=>by
  rw [List.map_cons,List.mem_cons,not_or] at h
  rw [List.cons_append,l4,if_neg (fun e=>h.1 e.symm),EK h.2];rfl
theorem Hz {T m:Nat}{a:Rm}(hT:(T:Int)∉a.fI.map (·.1)):∀fs:List Pt,(br T a m fs).fI=a.fI++(if fs=[] then [] else [((T:Int),fs.map (aM m))]):=by
 intro fs
 have key:∀(r fs:List Pt),fs≠[]->∀b:Rm,b.fI=a.fI++[((T:Int),fs.map (aM m))]->(br T b m r).fI=a.fI++[((T:Int),(fs++r).map (aM m))]:=by
  intro r
  induction r with
  | nil=>intro fs _ b hb;rw [List.append_nil];exact hb
  | cons x r ih =>
   intro fs hf b hb
   have:(br T b m (x :: r))=br T (b.free T (aM m x)) m r:=rfl
   rw [this,ih (fs++[x]) (by simp) _ (by
    show l4 b.fI T (aM m x)=_
    rw [hb,EK hT,List.map_append];rfl),List.append_assoc];rfl
 cases fs with
 | nil=>simp [br]
 | cons x r =>
  have:(br T a m (x :: r))=br T (a.free T (aM m x)) m r:=rfl
  rw [this,key r [x] (by simp) _ (by
   show l4 a.fI T (aM m x)=_
   rw [EJ hT];rfl)]
  simp
section
variable {pr:Bool}{n q txg:Nat}{ls:List (Option Lv)}{P P2:PS}{pm nw:List dt}{od ds:List (Int×List Pt)}{fs:List Pt}
theorem Q1.cm (h:Q1 (bD pr ls.length n) (aN pr ls.length 1024) q txg P.x pm)(hg:Grow pr n (txg+1) ls P pm P2 nw)(xo:P2.x.fI=P.x.fI)
  (U4:∀x,x∈bc od↔∃e∈pm,e.x=x) (ek:∀e∈nw,e.x∈bc ds) (zA:fs.Nodup) (Aa:∀x,x∈fs↔x∈bc od/\x∉bc ds) (z8:kh (bD pr ls.length n:Nat) (aN pr ls.length 1024:Nat) (aN pr ls.length 1024) (txg+1) P2.x fs) (hq:pm.length<=q) (ht:1<=txg) :
  Q1 (bD pr ls.length n) (aN pr ls.length 1024) q (txg+1) ((br (txg+1) P2.x (aN pr ls.length 1024) fs).sync ((txg+1:Nat):Int)) ((pm++nw).filter fun e=>decide (e.x∈bc ds)):=by
 obtain ⟨m,hm⟩:∃m,m=aN pr ls.length 1024:=⟨_,rfl⟩
 have aam:=hg.xj
 have tG:=aam.po
 have pg:=hg.fr
 have Br:=hg.ds
 have fG:=fun e he f hf=>tG.one (e:=e) (f:=f) he hf
 rw [<-hm] at h z8 pg Br fG ⊢
 have Ox:=aam.dd
 rw [<-hm] at Ox
 have hTn:((txg+1:Nat):Int)∉P2.x.fI.map (·.1):=fun hc=>by
  obtain ⟨g,Q2,e⟩:=List.mem_map.1 hc
  rw [xo] at Q2
  have:=(h.gr g Q2).1
  omega
 have Jc:=Hz (m:=m) hTn fs
 obtain ⟨F,hF⟩:∃F,F=br (txg+1) P2.x m fs:=⟨_,rfl⟩
 rw [<-hF] at Jc ⊢
 have hFd:F.D=P2.x.D:=by rw [hF];exact z8.d
 have Vd:F.Ok (bD pr ls.length n:Nat) (m:Nat):=by rw [hF];exact z8.ok
 rw [xo] at Jc
 have ack:∀x∈fs,∃e∈pm,e.x=x:=fun x hx=>(U4 x).1 ((Aa x).1 hx).1
 have jH:fs.length<=q:=by
  have:=fx (l:=fs) (m:=pm.map (·.x)) zA fun x hx=>by
   obtain ⟨e,he,c⟩:=ack x hx
   exact List.mem_map.2 ⟨e,he,c⟩
  rw [List.length_map] at this;omega
 have hFg:∀g∈F.fI,g∈P.x.fI\/(fs≠[]/\g=(((txg+1:Nat):Int),fs.map (aM m))):=fun g Q2=>by
  rw [Jc,List.mem_append] at Q2
  rcases Q2 with c | c
  ·exact .inl c
  ·split at c
   ·cases c
   ·exact .inr ⟨by assumption,List.mem_singleton.1 c⟩
 have hFW:∀k,k∈F.W↔k∈P.x.W\/∃x∈fs,aM m x=k:=fun k=>by
  unfold Rm.W
  rw [Jc,List.flatMap_append,List.mem_append]
  refine or_congr Iff.rfl ?_
  split
  ·rename_i c;subst c;simp
  ·simp
 have hWW:∀k,k∈(F.sync ((txg+1:Nat):Int)).W->k∈F.W:=fun k hk=>by
  obtain ⟨g,Q2,c⟩:=List.mem_flatMap.1 hk
  exact List.mem_flatMap.2 ⟨g,(List.mem_filter.1 Q2).1,c⟩
 have ae3:∀k,k∈(F.fI.filter fun g=>jJ ((txg+1:Nat):Int) g.1).flatMap (·.2)->k∈P.x.W:=fun k hk=>by
  obtain ⟨g,Q2,c⟩:=List.mem_flatMap.1 hk
  obtain ⟨c1,c2⟩:=List.mem_filter.1 Q2
  rcases hFg g c1 with c3 | ⟨-,rfl⟩
  ·exact List.mem_flatMap.2 ⟨g,c3,c⟩
  ·simp only [jJ,decide_eq_true_eq] at c2;omega
 have hDs:∀k,k∈(F.sync ((txg+1:Nat):Int)).D↔k∈P2.x.D/\k∉(F.fI.filter fun g=>jJ ((txg+1:Nat):Int) g.1).flatMap (·.2):=fun k=>by
  show k∈F.D.filter _↔_
  rw [List.mem_filter,hFd]
  simp
 have Xh:∀e∈(pm++nw).filter fun e=>decide (e.x∈bc ds),aM m e.x∉F.W:=fun e he hc=>by
  obtain ⟨c1,c2⟩:=List.mem_filter.1 he
  have c2:e.x∈bc ds:=by simpa using c2
  rcases (hFW _).1 hc with c | ⟨x,hx,c⟩
  ·rcases List.mem_append.1 c1 with c3 | c3
   ·exact (h.hd e c3).2 c
   ·exact pg e c3 (h.ok.wd _ c)
  ·obtain ⟨f,hf,rfl⟩:=ack x hx
   have:=fG f (List.mem_append_left _ hf) e c1 c
   subst this
   exact ((Aa _).1 hx).2 c2
 refine ⟨⟨fun k hk => ?_, ?_,fun k hk => ?_⟩, ?_,fun e he=>⟨?_,fun hc=>Xh e he (hWW _ hc)⟩,fun k hk => ?_,fun g Q2 => ?_, ?_⟩
 ·exact Vd.dl k (by rw [hFd];exact ((hDs k).1 hk).1)
 ·have hs:((F.fI.filter fun g => !jJ ((txg+1:Nat):Int) g.1).flatMap (·.2)).Sublist (F.fI.flatMap (·.2)):=by
   have:∀L:List (Int×List Nat),((L.filter fun g => !jJ ((txg+1:Nat):Int) g.1).flatMap (·.2)).Sublist (L.flatMap (·.2)):=by
    intro L
    induction L with
    | nil=>exact List.Sublist.refl _
    | cons g r ih =>
     rw [List.filter_cons]
     split
     ·rw [List.flatMap_cons,List.flatMap_cons];exact List.Sublist.append (List.Sublist.refl _) ih
     ·rw [List.flatMap_cons];exact ih.trans (List.sublist_append_right _ _)
   exact this _
  exact hs.nodup Vd.wn
 ·refine (hDs k).2 ⟨by rw [<-hFd];exact Vd.wd k (hWW k hk),fun hc => ?_⟩
  obtain ⟨g1,a1,a2⟩:=List.mem_flatMap.1 hk
  obtain ⟨g2,b1,b2⟩:=List.mem_flatMap.1 hc
  obtain ⟨a3,a4⟩:=List.mem_filter.1 a1
  obtain ⟨b3,b4⟩:=List.mem_filter.1 b1
  have eL:g1≠g2:=fun e=>by subst e;rw [b4] at a4;simp at a4
  have hw:=Vd.wn
  unfold Rm.W at hw
  obtain ⟨i,hi,rfl⟩:=List.getElem_of_mem a3
  obtain ⟨j,hj,rfl⟩:=List.getElem_of_mem b3
  have acm:∀(L:List (Int×List Nat)),(L.flatMap (·.2)).Nodup->∀i j (hi:i<L.length) (hj:j<L.length),i<j->k∈L[i].2->k∈L[j].2->False:=by
   intro L
   induction L with
   | nil=>intro _ i j hi;exact absurd hi (by simp)
   | cons g r ih =>
    intro hL i j hi hj Fl h1 h2
    rw [List.flatMap_cons,List.nodup_append] at hL
    cases j with
    | zero=>omega
    | succ j =>
     cases i with
     | zero=>exact hL.2.2 k h1 k (List.mem_flatMap.2 ⟨r[j]'(by simpa using hj),List.getElem_mem _,h2⟩) rfl
     | succ i=>exact ih hL.2.1 i j (by simpa using hi) (by simpa using hj) oZ h1 h2
  rcases Nat.lt_trichotomy i j with c | c | c
  ·exact acm _ hw i j hi hj c a2 b2
  ·subst c;exact eL rfl
  ·exact acm _ hw j i hj hi c b2 a2
 ·show (F.D.filter _).Nodup
  exact List.filter_sublist.nodup (by rw [hFd];exact aam.nd)
 ·obtain ⟨c1, -⟩:=List.mem_filter.1 he
  exact (hDs _).2 ⟨Ox e c1,fun hc=>Xh e he ((hFW _).2 (.inl (ae3 _ hc)))⟩
 ·obtain ⟨c1,c2⟩:=(hDs k).1 hk
  have cw:∀g,g∈F.fI->k∈g.2->k∈(F.sync ((txg+1:Nat):Int)).W:=fun g c3 c4=>by
   refine List.mem_flatMap.2 ⟨g,List.mem_filter.2 ⟨c3, ?_⟩,c4⟩
   cases hr:jJ ((txg+1:Nat):Int) g.1 with
   | false=>rfl
   | true=>exact absurd (List.mem_flatMap.2 ⟨g,List.mem_filter.2 ⟨c3,hr⟩,c4⟩) c2
  have ae4:∀e∈pm,aM m e.x=k->k∈(F.sync ((txg+1:Nat):Int)).W\/∃e∈(pm++nw).filter (fun e=>decide (e.x∈bc ds)),aM m e.x=k:=fun e he c=>by
   by_cases hd:e.x∈bc ds
   ·exact .inr ⟨e,List.mem_filter.2 ⟨List.mem_append_left _ he,by simpa using hd⟩,c⟩
   ·left
    have hfx:e.x∈fs:=(Aa _).2 ⟨(U4 _).2 ⟨e,he,rfl⟩,hd⟩
    refine cw (((txg+1:Nat):Int),fs.map (aM m)) ?_ (List.mem_map.2 ⟨e.x,hfx,c⟩)
    rw [Jc,if_neg (fun e=>by rw [e] at hfx;cases hfx)]
    simp
  rcases Br k c1 with c | ⟨e,he,c⟩
  ·rcases h.ds k c with d | ⟨e,he,d⟩
   ·left
    obtain ⟨g,c3,c4⟩:=List.mem_flatMap.1 d
    exact cw g (by rw [Jc];exact List.mem_append_left _ c3) c4
   ·exact ae4 e he d
  ·exact .inr ⟨e,List.mem_filter.2 ⟨List.mem_append_right _ he,by simpa using ek e he⟩,c⟩
 ·obtain ⟨c1,c2⟩:=List.mem_filter.1 Q2
  rcases hFg g c1 with c3 | ⟨-,rfl⟩
  ·have:=h.gr g c3
   refine ⟨?_,this.2⟩
   have h2:jJ ((txg+1:Nat):Int) g.1=false:=by simpa using c2
   simp only [jJ,decide_eq_false_iff_not] at h2
   omega
  ·exact ⟨.inl rfl,by rw [List.length_map];exact jH⟩
 ·have hk:(F.fI.map (·.1)).Nodup:=by
   rw [Jc,List.map_append,List.nodup_append]
   refine ⟨h.gn,by split <;> simp,fun a ha b hb e => ?_⟩
   split at hb
   ·cases hb
   ·simp only [List.map_cons,List.map_nil,List.mem_singleton] at hb
    rw [e,hb] at ha
    rw [xo] at hTn
    exact hTn ha
  exact (List.filter_sublist.map _).nodup hk
end
structure wT (pm:List dt)(cs:List (Int×Ob))(mo:Ob)(l:List au):Prop where
 rel:bF pm cs l
 cl:∀k o,aH cs k=some o->o.clean=true
 mc:mo.clean=true
 mi:db pm 8 mo
 JY:∀j,mo.byte (j2 pm) j=((fJ (slotsOf cs))[j]?).getD 0
theorem gf {l:List Pt}{x:Pt}:x∈bH l↔x∈l/\x≠ah:=by
 unfold bH
 rw [List.mem_filter];simp
theorem Q4 {l:List Pt}{N:Nat}(h:∀i,N<=i->cJ l i=ah):(bH l).length<=N:=by
 have h2:bH (l.drop N)=[]:=by
  unfold bH
  rw [List.filter_eq_nil_iff]
  intro x hx
  obtain ⟨i,hi,rfl⟩:=List.getElem_of_mem hx
  have:=h (N+i) oZ
  unfold cJ at this
  rw [List.getElem_drop]
  rw [List.length_drop] at hi
  rw [List.getElem?_eq_getElem oZ] at this
  simpa using this
 have e:bH l=bH (l.take N)++bH (l.drop N):=by
  unfold bH
  rw [<-List.filter_append,List.take_append_drop]
 rw [e,h2,List.append_nil]
 exact Nat.le_trans (k9 _) (by rw [List.length_take];omega)
theorem qE {pm:List dt}{N:Nat}{o:Ob}(h:db pm N o)(hc:o.clean=true):(ej o).length<=N+xk (Hw N):=by
 have h1:=Q4 h.pz
 have h2:=k9 o.index
 have h3:=(h.cl hc).2.2.1
 have e:ej o=bH o.ay++bH o.index:=by unfold ej bH;rw [List.filter_append]
 rw [e,List.length_append];omega
theorem EL {pm:List dt}{N:Nat}{o:Ob}(h:db pm N o)(hc:o.clean=true):∀x∈ej o,∃e∈pm,e.x=x:=fun x hx=>by
 obtain ⟨h1,h2⟩:=gf.1 hx
 rcases List.mem_append.1 h1 with c | c
 ·exact (h.ptr x c).resolve_left h2
 ·exact ((h.cl hc).2.2.2 x c).resolve_left h2
theorem Xi (z:Nat):Si z=Hw (cY z 1024):=rfl
theorem HA {z:Nat}(hz:z<=65536):cY z 1024+xk (Si z)<=cost z:=by
 unfold xk Si cY cost
 by_cases h:z=0
 ·subst h;simp
 ·rw [if_neg h,if_neg oZ];omega
theorem aan {pm:List dt}{o:Ob}(h:db pm (cY o.size 1024) o)(hz:o.size<=65536):EA (Si o.size) o<=cost o.size:=by
 have h1:=HA hz
 have h2:=h.jY.1
 unfold EA
 split
 ·exact Nat.zero_le _
 ·omega
section
variable {pr:Bool}{w n N:Nat}{R:Rk}{pm j1:List dt}
theorem Ve (fZ:dU pr w n R pm)(wU:dU pr w n R j1)(hs:∀e∈j1,e∈pm){x:Pt}(h:∃e∈j1,e.x=x):j2 j1 x=j2 pm x:=by
 obtain ⟨e,he,rfl⟩:=h
 rw [wP wU he,wP fZ (hs e he)]
theorem Vf (fZ:dU pr w n R pm){e:dt}(he:e∈pm)(h:∃f∈j1,f.x=e.x)(hs:∀e∈j1,e∈pm):e∈j1:=by
 obtain ⟨f,hf,c⟩:=h
 have:=fZ.one (hs f hf) he (by rw [c])
 rw [<-this];exact hf
theorem db.sub {o:Ob}(h:db pm N o)(fZ:dU pr w n R pm)(hs:∀e∈j1,e∈pm)(hp:∀x∈o.ay,x≠ah->∃e∈j1,e.x=x)(hi:o.clean=true->∀x∈o.index,x≠ah->∃e∈j1,e.x=x):db j1 N o:=by
 have hz:∀(x:Pt) {p:Prop},(x≠ah->p)->x=ah\/p:=fun x p h=>by
  by_cases c:x=ah
  ·exact .inl c
  ·exact .inr (h c)
 refine ⟨fun x hx=>hz x (hp x hx),h.fk,h.fn,h.pl,h.pz,h.il,h.sz,h.rt,fun c=>⟨(h.cl c).1,(h.cl c).2.1.mono fun e he hx => ?_,(h.cl c).2.2.1,fun x hx=>hz x (hi c x hx)⟩⟩
 refine Vf fZ he (hi c e.x hx fun h0 => ?_) hs
 have:=(fZ.Hu e he).cu
 rw [h0] at this
 exact absurd this.2.2.2.2.1 (by simp [ah])
theorem EM {o:Ob}(fZ:dU pr w n R pm)(wU:dU pr w n R j1)(hs:∀e∈j1,e∈pm)(hp:∀x∈o.ay,x≠ah->∃e∈j1,e.x=x)(j:Nat):o.byte (j2 j1) j=o.byte (j2 pm) j:=by
 unfold Ob.byte
 congr 2
 rw [de,de]
 cases aH o.fresh ((j / 1024:Nat):Int) with
 | some b=>rfl
 | none =>
  simp only
  split
  ·rfl
  ·rename_i eL
   rcases lN (l:=o.ay) (i:=j / 1024) with c | c
   ·exact absurd c eL
   ·rw [Ve fZ wU hs (hp _ c eL)]
theorem dW.sub {o:Ob}{d:au}(h:dW pm o d)(fZ:dU pr w n R pm)(wU:dU pr w n R j1)(hs:∀e∈j1,e∈pm)(hp:∀x∈o.ay,x≠ah->∃e∈j1,e.x=x):dW j1 o d :=
 ⟨h.us,h.size,h.sz,h.fp,fun j=>by rw [EM fZ wU hs hp];exact h.byte j,h.gE,h.born⟩
end
theorem Q5 {os:List (Int×Ob)}{z:Int×List Pt}:(bc (os.map (fun e=>(e.1,ej e.2))++[z])).length=(os.map fun e=>(ej e.2).length).sum+z.2.length:=by
 unfold bc
 rw [List.flatMap_append,List.length_append]
 congr 1
 ·induction os with
  | nil=>rfl
  | cons e r ih=>rw [List.map_cons,List.flatMap_cons,List.length_append,ih,List.map_cons,List.sum_cons]
 ·simp
theorem LM {os:List (Int×Ob)}{z:Int×List Pt}{x:Pt}:x∈bc (os.map (fun e=>(e.1,ej e.2))++[z])↔(∃e∈os,x∈ej e.2)\/x∈z.2:=by
 unfold bc
 rw [List.flatMap_append,List.mem_append]
 refine or_congr ?_ (by simp)
 rw [List.mem_flatMap]
 constructor
 ·rintro ⟨e,he,hx⟩
  obtain ⟨f,hf,rfl⟩:=List.mem_map.1 he
  exact ⟨f,hf,hx⟩
 ·rintro ⟨f,hf,hx⟩
  exact ⟨_,List.mem_map.2 ⟨f,hf,rfl⟩,hx⟩
theorem Q6 {α:Type}(l:List α)(i:Nat):aH (je 0 l) (i:Int)=l[i]?:=by
 cases h:l[i]? with
 | none =>
  refine j0 fun hk => ?_
  obtain ⟨e,he,e2⟩:=List.mem_map.1 hk
  obtain ⟨j,hj,e3, -⟩:=qx he
  rw [List.getElem?_eq_none_iff] at h
  omega
 | some v =>
  have hi:=(List.getElem?_eq_some_iff.1 h).1
  have hv:=(List.getElem?_eq_some_iff.1 h).2
  refine eW (oX 0 l) ?_
  have:=mX 0 l i (by rw [kZ];exact hi)
  rw [Nat.zero_add,hv] at this
  rw [<-this];exact List.getElem_mem _
theorem EN (pm:List dt){b:List UInt8}(hb:b.length=8064):db pm 8 (iS b):=by
 have h8:(eV b).length=8:=by simp [eV,dA,hb,cY]
 exact ⟨(fun _ h=>by cases h),fun e he=>by
  obtain ⟨j,hj,e1,e2⟩:=qx he
  have:=yR _ (List.mem_of_getElem? e2)
  omega,oX _ _,by simp [iS],fun i _=>iF (Nat.zero_le _),by simp [iS],by omega,⟨by simp [iS,fB],by simp only [iS];exact dx⟩,fun h=>by simp [iS] at h⟩
theorem LN {pr:Bool}{w n:Nat}{R:Rk}{pm nw:List dt}{b:List UInt8}{mo:Ob}(hb:b.length=8064)(hc:tg pm nw 8 (iS b) mo)(fZ:dU pr w n R (pm++nw))(j:Nat):mo.byte (j2 (pm++nw)) j=(b[j]?).getD 0:=by
 have pg:mo.fresh=[]:=(hc.Sm.cl hc.clean).1
 have hm:=Nat.mod_lt j (show 0<1024 by omega)
 have aal:mo.raw (j2 (pm++nw)) (j / 1024)=if cJ mo.ay (j / 1024)=ah then [] else j2 (pm++nw) (cJ mo.ay (j / 1024)):=by rw [de,pg];rfl
 have Y6:(b[j]?).getD 0=((((b.drop (j / 1024*1024)).take 1024))[j % 1024]?).getD 0:=by
  rw [List.getElem?_take,if_pos hm,List.getElem?_drop,show j / 1024*1024+j % 1024=j by omega]
 have h8:(jt 1024 b).length=8:=by rw [dA,hb];rfl
 unfold Ob.byte
 rw [aal]
 have gN:aH (iS b).fresh ((j / 1024:Nat):Int)=(eV b)[j / 1024]?:=Q6 _ _
 by_cases c:j / 1024<8
 ·have hs:(eV b)[j / 1024]? = some (eg ((b.drop (j / 1024*1024)).take 1024)):=by
   rw [eV,List.getElem?_map,List.getElem?_eq_getElem oZ,lB];rfl
  rw [hs] at gN
  rcases hc.put _ _ gN with ⟨c1,c2⟩ | ⟨c1,c2,e,he,c3,c4⟩
  ·rw [if_pos c1,Y6]
   rw [ia,fw] at c2
   rw [qD c2];rfl
  ·rw [if_neg c1,<-c3,wP fZ (List.mem_append_right _ he),c4,Y6]
   rw [ia] at c2
   rw [mF c2]
 ·rw [List.getElem?_eq_none (by simp [eV,dA,hb,cY];omega)] at gN
  have:=hc.dg _ gN
  have e:b[j]? = none:=List.getElem?_eq_none oZ
  rw [if_pos (by rw [this];exact iF (Nat.zero_le _)),e];rfl
section
variable {pr:Bool}{n q txg:Nat}{ls:List (Option Lv)}{P P2:PS}{pm:List dt}{all os:List (Int×Ob)}{l:List au}{od ds:List (Int×List Pt)}{fs:List Pt}{mo:Ob}{ks:List Int}
theorem HB (hI:wC ls)(hn:324<=n/\n<=2048)(hw:1<=ls.length/\ls.length<=5)(hp:pr=true->3<=ls.length)(ht:1<=txg/\txg+1<=281474976710656)(h:CmR pr ls n txg all od P ks os ds P2 mo fs)(hs:QX pr n ls P pm)(ha:bF pm all l)
  (Mg:Q1 (bD pr ls.length n) (aN pr ls.length 1024) q txg P.x pm) (U4:∀x,x∈bc od↔∃e∈pm,e.x=x) (hq:pm.length<=q) (Sd:aT l+10<=q) :
  ∃j1,wT j1 os mo (l.map (lO (txg+1)))/\(∀x,x∈bc ds↔∃e∈j1,e.x=x)/\j1.length<=q/\Q1 (bD pr ls.length n) (aN pr ls.length 1024) q (txg+1) ((br (txg+1) P2.x (aN pr ls.length 1024) fs).sync ((txg+1:Nat):Int)) j1/\dU pr ls.length n P2.R j1/\qC n P.R P2.R/\(∀e∈ds,e.2.length<=200)/\(∀x,x∈bc ds↔x∈ej mo\/∃k o,aH os k=some o/\x∈ej o)/\fB mo.root=0/\mo.root.Ok/\mo.root.bh<=txg+1:=by
 obtain ⟨P1,ds0,hk,h1,h2,rfl,zA,Aa,z8⟩:=h
 have ic:1<=txg+1/\txg+1<=281474976710656:=by omega
 have Dy:ks.Nodup:=hk.nodup_iff.2 ha.kn
 have Gv:=h1.go.trans h2.go
 have mM:=h1.keys
 obtain ⟨n1,g1,g2,g3,rfl⟩:=lT.grow hI hn hw hp ic h1 hs (fun k o ho=>by
  rcases ha.keys k with ⟨c, -⟩ | ⟨o',d,c1, -,c3, -⟩
  ·rw [ho] at c;cases c
  ·rw [ho] at c1;cases c1;exact c3) Dy
 have hTB:(fJ (slotsOf os)).length=8064:=by rw [mG,eJ]
 obtain ⟨n2,k1,k2,k3⟩:=wF.grow hI hn hw hp ic h2 g1.xj (EN (pm++n1) hTB)
 have hrt:=(wF.Sh (NL:=Hw 8) (iB pr hw hn).2 ic dZ ((EN (pm++n1) hTB).aak g1.xj.po) h2).2.2.2
 have hg:=g1.trans k1
 have k3:=k3.pre
 have tG:=hg.xj.po
 have PX:os.map (·.1)=ks:=mM.1
 have nT:=ha.cm hk PX (fun k hk=>by
  obtain ⟨o,o',c1,c2,c3⟩:=g2 k hk
  exact ⟨o,o',c1,c2,c3.app⟩) (nw:=n1++n2) tG hg.bh
 have bZ:(os.map (·.1)).Nodup:=nT.kn
 have hoc:∀k o,aH os k=some o->o.clean=true/\db (pm++(n1++n2)) (cY o.size 1024) o/\o.size<=65536:=fun k o ho=>by
  have hk1:k∈ks:=by rw [<-PX];exact List.mem_map.2 ⟨_,aI ho,rfl⟩
  obtain ⟨p,p',c1,c2,c3⟩:=g2 k hk1
  rw [ho] at c2;cases c2
  rcases nT.keys k with ⟨c, -⟩ | ⟨o',d,e1, -,e3,e4⟩
  ·rw [ho] at c;cases c
  ·rw [ho] at e1;cases e1;exact ⟨c3.clean,e3,e4.sz⟩
 have W8:∀e∈os,aH os e.1=some e.2:=fun e he=>lK bZ he
 obtain ⟨D,hD⟩:∃D,D=os.map (fun e=>(e.1,ej e.2))++[(0,bH (mo.ay++mo.index))]:=⟨_,rfl⟩
 have hDm:∀x,x∈bc D↔(∃e∈os,x∈ej e.2)\/x∈ej mo:=fun x=>by rw [hD];exact LM
 rw [<-hD] at Aa ⊢
 have ek:∀e∈n1++n2,e.x∈bc D:=fun e he=>by
  have eL:e.x≠ah:=fun h0=>by
   have:=(tG.Hu e (List.mem_append_right _ he)).cu
   rw [h0] at this
   exact absurd this.2.2.2.2.1 (by simp [ah])
  rw [hDm]
  rcases List.mem_append.1 he with he | he
  ·obtain ⟨k, -,o',c1,c2⟩:=g3 e he
   exact .inl ⟨(k,o'),aI c1,gf.2 ⟨List.mem_append.2 c2,eL⟩⟩
  ·exact .inr (gf.2 ⟨List.mem_append.2 (k2 e he),eL⟩)
 have hDe:∀x∈bc D,∃e∈pm++(n1++n2),e.x=x:=fun x hx=>by
  rcases (hDm x).1 hx with ⟨e,he,hx⟩ | hx
  ·obtain ⟨c1,c2, -⟩:=hoc _ _ (W8 e he)
   exact EL c2 c1 x hx
  ·exact EL k3.Sm k3.clean x hx
 have wh:∀x,x∈bc D↔x∈ej mo\/∃k o,aH os k=some o/\x∈ej o:=fun x=>by
  rw [hDm]
  constructor
  ·rintro (⟨e,he,hx⟩ | hx)
   ·exact .inr ⟨_,_,W8 e he,hx⟩
   ·exact .inl hx
  ·rintro (hx | ⟨k,o,ho,hx⟩)
   ·exact .inr hx
   ·exact .inl ⟨_,aI ho,hx⟩
 obtain ⟨j1,wU⟩:∃p,p=(pm++(n1++n2)).filter fun e=>decide (e.x∈bc D):=⟨_,rfl⟩
 have iY:∀e∈j1,e∈pm++(n1++n2):=fun e he=>by rw [wU] at he;exact (List.mem_filter.1 he).1
 have Fp:∀x,x∈bc D↔∃e∈j1,e.x=x:=fun x=>by
  constructor
  ·intro hx
   obtain ⟨e,he,rfl⟩:=hDe x hx
   exact ⟨e,by rw [wU];exact List.mem_filter.2 ⟨he,by simpa using hx⟩,rfl⟩
  ·rintro ⟨e,he,rfl⟩
   rw [wU] at he
   simpa using (List.mem_filter.1 he).2
 have Vg:dU pr ls.length n P2.R j1:=by rw [wU];exact tG.filter _
 have lV:=Mg.cm hg Gv.ge.fI U4 ek zA Aa z8 hq ht.1
 rw [<-wU] at lV
 have hlO:∀e∈os,(ej e.2).length<=cost e.2.size:=fun e he=>by
  obtain ⟨c1,c2,c3⟩:=hoc _ _ (W8 e he)
  exact Nat.le_trans (qE c2 c1) (HA c3)
 have hlM:(ej mo).length<=10:=qE k3.Sm k3.clean
 have mw:j1.length<=q:=by
  have h1:(j1.map (·.x)).Nodup:=List.pairwise_map.2 (Vg.inj.imp fun h e=>h (by rw [e]))
  have h2:=fx (l:=j1.map (·.x)) (m:=bc D) h1 fun x hx=>by
   obtain ⟨e,he,rfl⟩:=List.mem_map.1 hx
   exact (Fp _).2 ⟨e,he,rfl⟩
  rw [List.length_map,hD,Q5] at h2
  have h3:(os.map fun e=>(ej e.2).length).sum<=eI os:=by
   have:∀L:List (Int×Ob),(∀e∈L,(ej e.2).length<=cost e.2.size)->(L.map fun e=>(ej e.2).length).sum<=eI L:=by
    intro L
    induction L with
    | nil=>intro _;exact Nat.zero_le _
    | cons e r ih =>
     intro h
     have a1:=h e (List.mem_cons_self ..)
     have a2:=ih fun x hx=>h x (List.mem_cons_of_mem _ hx)
     simp only [eI,List.map_cons,List.sum_cons] at *
     omega
   exact this os hlO
  have h4:=nT.used
  have h5:aT (l.map (lO (txg+1)))=aT l:=by
   unfold aT
   rw [List.map_map]
   congr 1
   refine List.map_congr_left fun d _ => ?_
   simp only [Function.comp]
   rw [show (lO (txg+1) d).b=d.b from (dq _ d 64).2.1]
  have h6:(bH (mo.ay++mo.index)).length<=10:=hlM
  simp only at h2
  omega
 have jG:∀ {N:Nat} {o:Ob},db (pm++(n1++n2)) N o->(∀x∈ej o,x∈bc D)->(∀x∈o.ay,x≠ah->∃e∈j1,e.x=x)/\∀x∈o.index,x≠ah->∃e∈j1,e.x=x:=fun h hl=>⟨fun x hx eL=>(Fp x).1 (hl x (gf.2 ⟨List.mem_append_left _ hx,eL⟩)),fun x hx eL=>(Fp x).1 (hl x (gf.2 ⟨List.mem_append_right _ hx,eL⟩))⟩
 refine ⟨j1,⟨⟨fun k => ?_,nT.kn,nT.ord,nT.no⟩,fun k o ho=>(hoc k o ho).1,k3.clean, ?_,fun j => ?_⟩,Fp,mw,lV,Vg,hg.dat,fun e he => ?_,wh,hrt.1.1,hrt.1.2,hrt.2.2.2⟩
 ·rcases nT.keys k with c | ⟨o,d,c1,c2,c3,c4⟩
  ·exact .inl c
  ·have hl:=jG c3 fun x hx=>(hDm x).2 (.inl ⟨(k,o),aI c1,hx⟩)
   exact .inr ⟨o,d,c1,c2,c3.sub tG iY hl.1 fun _=>hl.2,c4.sub tG Vg iY hl.1⟩
 ·have hl:=jG k3.Sm fun x hx=>(hDm x).2 (.inr hx)
  exact k3.Sm.sub tG iY hl.1 fun _=>hl.2
 ·have hl:=jG k3.Sm fun x hx=>(hDm x).2 (.inr hx)
  rw [EM tG Vg iY hl.1]
  have:=LN (pm:=pm) (nw:=n1++n2) hTB k3 tG j
  exact this
 ·rw [hD] at he
  rcases List.mem_append.1 he with he | he
  ·obtain ⟨f,hf,rfl⟩:=List.mem_map.1 he
   obtain ⟨-, -,c3⟩:=hoc _ _ (W8 f hf)
   have:=hlO f hf
   have:=lC c3
   simp only;omega
  ·rw [List.mem_singleton.1 he]
   have:(bH (mo.ay++mo.index)).length<=10:=hlM
   simp only;omega
end
section
variable {pr:Bool}{n N:Nat}{ls:List (Option Lv)}{R:Rk}{pm:List dt}{o:Ob}
variable (hI:wC ls)(hn:324<=n)(hw:1<=ls.length/\ls.length<=5)(hp:pr=true->3<=ls.length)(bu:∀i,i<ls.length->R.size i=n)(fZ:dU pr ls.length n R pm)
include hI hn hw hp bu fZ
theorem Q7 {e:dt}(he:e∈pm)(hb:e.b=fS e.g)(hl:1<=e.g.length/\e.g.length<=16)(ho:∀y∈e.g,fB y=0/\y.Ok):QJ R ls pr n (fg pm) e.x:=by
 have h1:=wQ fZ he
 have h2:=(fZ.Hu e he).Sj hI hn hw hp bu
 exact ⟨by rw [h1,<-hb];exact h2,by rw [h1];exact hl,by rw [h1];exact ho⟩
theorem Std.ld (h:Std pm o):rW R ls pr n (fg pm) o.root:=by
 rcases h.top with ⟨h0, -⟩ | ⟨h0,lv,h2,h3,h4,h5,⟨e,he,e1,e2,e3⟩,h6,h7⟩
 ·exact ⟨fun c=>absurd h0 c,fun c=>absurd h0 c,fun c=>absurd h0 c⟩
 ·have hu:fg pm o.root=lv:=by rw [<-e1,wQ fZ he,e3]
  refine ⟨fun _ => ?_,fun _=>by rw [hu];exact h4,fun _ y hy hy0 => ?_⟩
  ·have:=Q7 hI hn hw hp bu fZ he (by rw [e2,e3]) (by rw [e3];omega) (by rw [e3];exact h6)
   rw [e1] at this;exact this
  ·rw [hu] at hy
   obtain ⟨j,hj,c⟩:=Hv hy
   rcases h7 j hj with ⟨c1, -⟩ | ⟨c1,f,hf,f1,f2,f3,f4, -,f6, -⟩
   ·rw [c] at c1;exact absurd c1 hy0
   ·have:=Q7 hI hn hw hp bu fZ hf f2 ⟨f3,f4⟩ f6
    rw [f1,c] at this;exact this
end
theorem Q8 {up:Pt->List Pt}:∀ {lv:List Pt},(∀j,j+1<lv.length->(jO up (cJ lv j)).length=16)->∀j i,j<lv.length->i<16->cJ (ff up lv) (16*j+i)=cJ (jO up (cJ lv j)) i
 | [],_,j,i,hj,_=>absurd hj (by simp)
 | x :: r,h,0,i,hj,hi=>by
  unfold ff
  rw [List.flatMap_cons,Nat.mul_zero,Nat.zero_add]
  show cJ (jO up x++_) i=cJ (jO up x) i
  by_cases c:r=[]
  ·subst c;simp [cJ]
  ·have hx:(jO up x).length=16:=h 0 (by have:=List.length_pos_iff.2 c;simp;omega)
   unfold cJ
   rw [List.getElem?_append_left oZ]
 | x :: r,h,j+1,i,hj,hi=>by
  have hx:(jO up x).length=16:=h 0 (by simp at hj;simp;omega)
  have ih:=Q8 (up:=up) (lv:=r) (fun k hk=>h (k+1) (by simpa using hk)) j i (by simpa using hj) hi
  have e:cJ (x :: r) (j+1)=cJ r j:=by simp [cJ]
  rw [e,<-ih]
  unfold ff cJ
  rw [List.flatMap_cons,List.getElem?_append_right oZ,hx]
  congr 2;omega
theorem LQ (up:Pt->List Pt)(i:Nat):cJ (jO up ah) i=ah:=by
 unfold jO cJ
 rw [if_pos rfl,List.getElem?_replicate]
 split <;> rfl
section
variable {pr:Bool}{w n N:Nat}{R:Rk}{pm:List dt}{o:Ob}
theorem tR (fZ:dU pr w n R pm)(h:Std pm o)(u:Bool)(z:Nat):(∀i,cJ (lL (fg pm) ⟨u,z,o.root⟩).ay i=cJ o.ay i)/\Std pm (lL (fg pm) ⟨u,z,o.root⟩)/\(∀x,x≠ah->(x∈(lL (fg pm) ⟨u,z,o.root⟩).index↔x∈o.index))/\((lL (fg pm) ⟨u,z,o.root⟩).index=[]/\(lL (fg pm) ⟨u,z,o.root⟩).ay=[]\/(lL (fg pm) ⟨u,z,o.root⟩).index=o.index/\(lL (fg pm) ⟨u,z,o.root⟩).ay.length+16<=16*o.index.length):=by
 rcases h.top with ⟨h0,h1,h2⟩ | ⟨h0,lv,h2,h3,h4,h5,⟨e,he,e1,e2,e3⟩,h6,h7⟩
 ·have e:lL (fg pm) ⟨u,z,o.root⟩=⟨u,z,o.root,[],[],[],true⟩:=if_pos h0
  rw [e]
  refine ⟨fun i=>by rw [h1];exact iF (Nat.zero_le _),⟨h.ok,.inl ⟨h0,fun i=>iF (Nat.zero_le _),fun _ h=>by cases h⟩⟩,fun x hx=>⟨(fun h=>by cases h),fun h=>absurd (h2 x h) hx⟩,.inl ⟨rfl,rfl⟩⟩
 ·have hu:fg pm o.root=lv:=by rw [<-e1,wQ fZ he,e3]
  have e:lL (fg pm) ⟨u,z,o.root⟩=⟨u,z,o.root,ff (fg pm) lv,lv++[o.root],[],true⟩:=by unfold lL;rw [if_neg h0];simp only [hu]
  rw [e]
  have acn:∀j,j<lv.length->(cJ lv j=ah/\jO (fg pm) (cJ lv j)=List.replicate 16 ah)\/(cJ lv j≠ah/\∃f∈pm,f.x=cJ lv j/\jO (fg pm) (cJ lv j)=f.g/\f.g.length<=16/\(j+1<lv.length->f.g.length=16)/\∀i,i<16->cJ f.g i=cJ o.ay (16*j+i)):=fun j hj=>by
   rcases h7 j hj with ⟨c1, -⟩ | ⟨c1,f,hf,f1,f2,f3,f4,f5,f6,f7⟩
   ·exact .inl ⟨c1,if_pos c1⟩
   ·exact .inr ⟨c1,f,hf,f1,by unfold jO;rw [if_neg c1,<-f1,wQ fZ hf],f4,f5,f7⟩
  have h16:∀j,j+1<lv.length->(jO (fg pm) (cJ lv j)).length=16:=fun j hj=>by
   rcases acn j oZ with ⟨-,c⟩ | ⟨-,f, -, -,c, -,c2, -⟩
   ·rw [c];simp
   ·rw [c];exact c2 hj
  have hle:(ff (fg pm) lv).length<=16*lv.length:=by
   have:∀(r:List Pt),(∀x∈r,(jO (fg pm) x).length<=16)->(ff (fg pm) r).length<=16*r.length:=by
    intro r
    induction r with
    | nil=>intro _;exact Nat.zero_le _
    | cons x r ih =>
     intro h
     have a1:=h x (List.mem_cons_self ..)
     have a2:=ih fun y hy=>h y (List.mem_cons_of_mem _ hy)
     simp only [ff,List.flatMap_cons,List.length_append,List.length_cons] at *
     omega
   refine this lv fun x hx => ?_
   obtain ⟨j,hj,rfl⟩:=Hv hx
   rcases acn j hj with ⟨-,c⟩ | ⟨-,f, -, -,c,c2, -⟩
   ·rw [c];simp
   ·rw [c];exact c2
  have td:∀i,cJ (ff (fg pm) lv) i=cJ o.ay i:=fun i=>by
   by_cases c:i<16*lv.length
   ·have hj:i / 16<lv.length:=by omega
    have hm:=Nat.mod_lt i (show 0<16 by omega)
    have e:=Q8 h16 (i / 16) (i % 16) hj hm
    rw [show 16*(i / 16)+i % 16=i by omega] at e
    rw [e]
    rcases h7 _ hj with ⟨c1,c2⟩ | ⟨c1,f,hf,f1,f2,f3,f4,f5,f6,f7⟩
    ·have:=c2 (i % 16) hm
     rw [show 16*(i / 16)+i % 16=i by omega] at this
     rw [c1,LQ,this]
    ·have:=f7 (i % 16) hm
     rw [show 16*(i / 16)+i % 16=i by omega] at this
     rw [<-this]
     unfold jO
     rw [if_neg c1,<-f1,wQ fZ hf]
   ·rw [iF oZ,iF oZ]
  refine ⟨td,⟨h.ok,.inr ⟨h0,lv,rfl,h3,h4,hle,⟨_,he,e1,e2,e3⟩,h6,fun j hj => ?_⟩⟩,fun x _=>by rw [h2],.inr ⟨h2.symm,by rw [h2,List.length_append];simp only [List.length_cons,List.length_nil];omega⟩⟩
  simp only [td]
  exact h7 j hj
theorem pa {l l':List Pt}(h:∀i,cJ l i=cJ l' i){x:Pt}(hx:x∈l)(h0:x≠ah):x∈l':=by
 obtain ⟨i, -,c⟩:=Hv hx
 rw [h] at c
 rcases lN (l:=l') (i:=i) with d | d
 ·rw [c] at d;exact absurd d h0
 ·rw [c] at d;exact d
theorem AX (fZ:dU pr w n R pm)(h:Std pm o)(u:Bool)(z:Nat)(x:Pt):x∈ej (lL (fg pm) ⟨u,z,o.root⟩)↔x∈ej o:=by
 obtain ⟨h1, -,h3, -⟩:=tR fZ h u z
 unfold ej
 rw [gf,gf,List.mem_append,List.mem_append]
 constructor
 ·rintro ⟨c | c,h0⟩
  ·exact ⟨.inl (pa h1 c h0),h0⟩
  ·exact ⟨.inr ((h3 x h0).1 c),h0⟩
 ·rintro ⟨c | c,h0⟩
  ·exact ⟨.inl (pa (fun i=>(h1 i).symm) c h0),h0⟩
  ·exact ⟨.inr ((h3 x h0).2 c),h0⟩
theorem Xj (fZ:dU pr w n R pm)(h:db pm N o)(hc:o.clean=true)(u:Bool)(z:Nat):db pm N (lL (fg pm) ⟨u,z,o.root⟩):=by
 obtain ⟨c1,c2,c3,c4⟩:=h.cl hc
 obtain ⟨h1,h2,h3,h4⟩:=tR fZ c2 u z
 obtain ⟨s1,s2,s3,s4,s5⟩:=eK (fg pm) ⟨u,z,o.root⟩
 have hz:∀(x:Pt) {p:Prop},(x≠ah->p)->x=ah\/p:=fun x p h=>by
  by_cases c:x=ah
  ·exact .inl c
  ·exact .inr (h c)
 have hN:o.index.length<=cY N 16+1:=by
  have:xk (Hw N)<=cY N 16+1:=by unfold xk Hw cY;split <;> omega
  omega
 have mw:(lL (fg pm) ⟨u,z,o.root⟩).ay.length<=Hw N:=by
  rcases h4 with ⟨-,e⟩ | ⟨e,e2⟩
  ·rw [e];exact Nat.zero_le _
  ·unfold Hw;omega
 refine ⟨fun x hx=>hz x fun h0=>(h.ptr x (pa h1 hx h0)).resolve_left h0,by rw [s4];exact (fun _ h=>by cases h),by rw [s4];exact List.nodup_nil,mw,fun i hi=>by rw [h1];exact h.pz i hi, ?_,h.sz,by rw [s2];exact h.rt,fun _=>⟨s4,h2, ?_,fun x hx=>hz x fun h0=>(c4 x ((h3 x h0).1 hx)).resolve_left h0⟩⟩
 ·rcases h4 with ⟨e, -⟩ | ⟨e, -⟩
  ·rw [e];exact Nat.zero_le _
  ·rw [e];exact h.il
 ·rcases h4 with ⟨e, -⟩ | ⟨e, -⟩
  ·rw [e];exact Nat.zero_le _
  ·rw [e];exact c3
theorem Jm (fZ:dU pr w n R pm)(h:Std pm o)(hf:o.fresh=[])(u:Bool)(z:Nat)(j:Nat):(lL (fg pm) ⟨u,z,o.root⟩).byte (j2 pm) j=o.byte (j2 pm) j:=by
 unfold Ob.byte
 rw [de,de,hf,(eK (fg pm) ⟨u,z,o.root⟩).2.2.2.1,(tR fZ h u z).1]
theorem aao {d:au}(fZ:dU pr w n R pm)(h:dW pm o d)(hi:db pm N o)(hc:o.clean=true):dW pm (lL (fg pm) o.slot) d:=by
 obtain ⟨c1,c2, -, -⟩:=hi.cl hc
 obtain ⟨s1,s2,s3,s4,s5⟩:=eK (fg pm) o.slot
 refine ⟨by rw [s3];exact h.us,by rw [s1];exact h.size,by rw [s1];exact h.sz,by rw [s4];exact (fun _ h=>by cases h),fun j=>by rw [<-h.byte j];exact Jm fZ c2 c1 o.used o.size j,fun i wq=>by rw [s4,<-h.gE i wq,c1],fun i wq ht => ?_⟩
 rw [show cJ (lL (fg pm) o.slot).ay i=cJ o.ay i from (tR fZ c2 o.used o.size).1 i]
 exact h.born i wq ht
end
theorem HC (cs:List (Int×Ob)){i:Nat}(hi:i<112):(slotsOf cs)[i]? = some (match aH cs ((i+1:Nat):Int) with
 | some o=>o.slot
 | none=>eu):=by
 unfold slotsOf
 rw [List.getElem?_map,List.getElem?_range hi];rfl
theorem Q9 {up:Pt->List Pt}:∀ {i:Nat} {l:List eX} (k:Nat),aH (xm up i l) ((k:Nat):Int)=if i<k/\k<=i+l.length then (match l[k - i - 1]? with
 | some s=>if s.used then some (lL up s) else none
 | none=>none) else none
 | i,[],k=>by rw [if_neg (by simp only [List.length_cons,List.length_nil];omega)];rfl
 | i,s :: r,k=>by
  have ih:=Q9 (up:=up) (i:=i+1) (l:=r) k
  unfold xm
  by_cases hu:s.used=true
  ·rw [if_pos hu,List.singleton_append]
   by_cases c:i+1=k
   ·subst c
    rw [df,if_pos (by simp only [List.length_cons];omega),show i+1 - i - 1=0 by omega]
    simp [hu]
   ·rw [bQ oZ,ih]
    by_cases d:i+1<k/\k<=i+1+r.length
    ·rw [if_pos d,if_pos (by simp only [List.length_cons];omega),show k - i - 1=(k - (i+1) - 1)+1 by omega,List.getElem?_cons_succ]
    ·rw [if_neg d,if_neg (by simp only [List.length_cons,List.length_nil];omega)]
  ·rw [if_neg hu,List.nil_append,ih]
   by_cases d:i+1<k/\k<=i+1+r.length
   ·rw [if_pos d,if_pos (by simp only [List.length_cons];omega),show k - i - 1=(k - (i+1) - 1)+1 by omega,List.getElem?_cons_succ]
   ·rw [if_neg d]
    by_cases c:i+1=k
    ·subst c
     rw [if_pos (by simp only [List.length_cons];omega),show i+1 - i - 1=0 by omega]
     simp [hu]
    ·rw [if_neg (by simp only [List.length_cons,List.length_nil];omega)]
theorem mZ {up:Pt->List Pt}:∀ {i:Nat} {l:List eX},((xm up i l).map (·.1)).Nodup
 | i,[]=>List.nodup_nil
 | i,s :: r=>by
  have ih:=mZ (up:=up) (i:=i+1) (l:=r)
  unfold xm
  split
  ·rw [List.singleton_append,List.map_cons,List.nodup_cons]
   refine ⟨fun h => ?_,ih⟩
   obtain ⟨e,he,e2⟩:=List.mem_map.1 h
   obtain ⟨j,s', -, -,rfl⟩:=qA he
   simp only at e2;omega
  ·exact ih
section
variable {pr:Bool}{n:Nat}{ls:List (Option Lv)}{R:Rk}{pm:List dt}{cs:List (Int×Ob)}{mo:Ob}{l:List au}
theorem wT.lk (h:wT pm cs mo l)(k:Int):aH (xm (fg pm) 0 (slotsOf cs)) k=(aH cs k).map fun o=>lL (fg pm) o.slot:=by
 by_cases hk:1<=k/\k<=112
 ·obtain ⟨q,rfl⟩:∃q:Nat,k=((q+1:Nat):Int):=⟨(k - 1).toNat,by omega⟩
  rw [Q9,if_pos (by rw [eJ];omega),show q+1 - 0 - 1=q by omega,HC cs oZ]
  rcases h.rel.keys ((q+1:Nat):Int) with ⟨c, -⟩ | ⟨o,d,c1,c2,c3,c4⟩
  ·rw [c];rfl
  ·rw [c1]
   simp only
   rw [if_pos (show o.slot.used=true from c4.us)];rfl
 ·have h1:aH cs k=none:=by
   rcases h.rel.keys k with ⟨c, -⟩ | ⟨o,d,c1,c2, -⟩
   ·exact c
   ·obtain ⟨c3,c4⟩:=fh c2
    have:=h.rel.no d c3
    omega
  rw [h1]
  refine j0 fun hc => ?_
  obtain ⟨e,he,e2⟩:=List.mem_map.1 hc
  obtain ⟨j,s,h2, -,rfl⟩:=qA he
  have:=(List.getElem?_eq_some_iff.1 h2).1
  rw [eJ] at this
  simp only at e2;omega
theorem wT.Xk (h:wT pm cs mo l):slotsOf (xm (fg pm) 0 (slotsOf cs))=slotsOf cs:=by
 unfold slotsOf
 refine List.map_congr_left fun i _ => ?_
 have:=h.lk ((i+1:Nat):Int)
 unfold slotsOf at this
 rw [this]
 cases aH cs ((i+1:Nat):Int) with
 | none=>rfl
 | some o =>
  simp only [Option.map_some]
  obtain ⟨s1,s2,s3, -, -⟩:=eK (fg pm) o.slot
  unfold Ob.slot at *
  rw [s1,s2,s3]
theorem wT.used (h:wT pm cs mo l){s:eX}(hs:s∈slotsOf cs):s.Ok/\(s.used=true->∃k o,aH cs k=some o/\s=o.slot):=by
 rcases sO hs with rfl | ⟨k,o,ho,rfl⟩
 ·exact ⟨va,fun hc=>by cases hc⟩
 ·refine ⟨?_,fun _=>⟨k,o,ho,rfl⟩⟩
  rcases h.rel.keys k with ⟨c, -⟩ | ⟨o',d,c1,c2,c3,c4⟩
  ·rw [ho] at c;cases c
  ·rw [ho] at c1;cases c1
   exact ⟨(fun hu=>by have:=c4.us;rw [show o.slot.used=o.used from rfl,this] at hu;cases hu),c4.sz,c3.rt.1,c3.rt.2⟩
theorem wT.back {w:Nat}(h:wT pm cs mo l)(fZ:dU pr w n R pm):wT pm (xm (fg pm) 0 (slotsOf cs)) (fY (fg pm) mo.root) l:=by
 have Gm:=h.mi.cl h.mc
 refine ⟨⟨fun k => ?_,mZ,h.rel.ord,h.rel.no⟩,fun k o ho => ?_,(eK _ _).2.2.2.2,Xj fZ h.mi h.mc false 8064,fun j => ?_⟩
 ·rw [h.lk]
  rcases h.rel.keys k with ⟨c1,c2⟩ | ⟨o,d,c1,c2,c3,c4⟩
  ·rw [c1];exact .inl ⟨rfl,c2⟩
  ·rw [c1]
   refine .inr ⟨_,d,rfl,c2, ?_,aao fZ c4 c3 (h.cl k o c1)⟩
   rw [show (lL (fg pm) o.slot).size=o.size from (eK _ _).1]
   exact Xj fZ c3 (h.cl k o c1) o.used o.size
 ·rw [h.lk] at ho
  obtain ⟨p,hp,rfl⟩:=Option.map_eq_some_iff.1 ho
  exact (eK _ _).2.2.2.2
 ·rw [h.Xk,<-h.JY j]
  exact Jm fZ Gm.2.1 Gm.1 false 8064 j
theorem wT.live {w:Nat}(h:wT pm cs mo l)(fZ:dU pr w n R pm)(x:Pt):x∈bc (AR (fg pm) (fY (fg pm) mo.root) (slotsOf cs))↔x∈ej mo\/∃k o,aH cs k=some o/\x∈ej o:=by
 have Gm:=h.mi.cl h.mc
 unfold AR bc
 rw [List.flatMap_cons,List.mem_append]
 refine or_congr (AX fZ Gm.2.1 false 8064 x) ?_
 rw [List.mem_flatMap]
 constructor
 ·rintro ⟨e,he,hx⟩
  obtain ⟨f,hf,rfl⟩:=List.mem_map.1 he
  have:=lK mZ hf
  rw [h.lk] at this
  obtain ⟨p,hp,e2⟩:=Option.map_eq_some_iff.1 this
  simp only at hx
  rw [<-e2] at hx
  rcases h.rel.keys f.1 with ⟨c, -⟩ | ⟨o',d,c1, -,c3, -⟩
  ·rw [hp] at c;cases c
  ·rw [hp] at c1;cases c1
   exact ⟨f.1,p,hp,(AX fZ (c3.cl (h.cl _ _ hp)).2.1 p.used p.size x).1 hx⟩
 ·rintro ⟨k,o,ho,hx⟩
  have hl:=h.lk k
  rw [ho] at hl
  rcases h.rel.keys k with ⟨c, -⟩ | ⟨o',d,c1, -,c3, -⟩
  ·rw [ho] at c;cases c
  ·rw [ho] at c1;cases c1
   exact ⟨_,List.mem_map.2 ⟨_,aI hl,rfl⟩,(AX fZ (c3.cl (h.cl _ _ ho)).2.1 o.used o.size x).2 hx⟩
theorem wT.ae5 (h:wT pm cs mo l){w:Nat}(fZ:dU pr w n R pm):(List.range 8).flatMap ((fY (fg pm) mo.root).fO (j2 pm))=fJ (slotsOf cs):=by
 have hb:=(h.back fZ).JY
 rw [h.Xk] at hb
 have hz:(fY (fg pm) mo.root).size=8064:=(eK _ _).1
 have hl:=wJ (j2 pm) (fY (fg pm) mo.root) hz
 have ae6:∀m,m<=8->(List.range m).flatMap ((fY (fg pm) mo.root).fO (j2 pm))=(fY (fg pm) mo.root).me (j2 pm) 0 (min (m*1024) 8064):=by
  intro m
  induction m with
  | zero=>intro _;rfl
  | succ m ih =>
   intro hm
   rw [List.range_succ,List.flatMap_append,ih oZ,List.flatMap_singleton,Ob.nC,hz]
   have e:=Ob.oQ (j2 pm) (fY (fg pm) mo.root) 0 (min (m*1024) 8064) (aS 8064 m)
   rw [show 0+min (m*1024) 8064=m*1024 by omega] at e
   rw [e]
   congr 1
   unfold aS;omega
 rw [ae6 8 (Nat.le_refl _)]
 have hT:(fJ (slotsOf cs)).length=8064:=by rw [mG,eJ]
 apply List.ext_getElem
 ·rw [Ob.nB,hT];rfl
 ·intro i h1 h2
  have:=hb i
  rw [List.getElem?_eq_getElem h2] at this
  simp only [Ob.me,List.getElem_map,List.getElem_range',Nat.one_mul,Nat.zero_add]
  exact this
end
section
variable {pr:Bool}{n:Nat}{R:Rk}{pm:List dt}
theorem Ra {w:Nat}{od:List (Int×List Pt)}(h:dU pr w n R pm)(hk:∀x∈bc od,∃e∈pm,e.x=x):OpP (bD pr w n) (aN pr w 1024) od:=by
 refine ⟨fun x hx => ?_,fun x hx => ?_,fun x hx => ?_,fun x hx y hy e => ?_⟩
 ·obtain ⟨e,he,rfl⟩:=hk x hx
  exact (h.Hu e he).top
 ·obtain ⟨e,he,rfl⟩:=hk x hx
  rw [<-Int.natCast_mul]
  exact (h.Hu e he).at_
 ·obtain ⟨e,he,rfl⟩:=hk x hx
  have:=(h.Hu e he).fit
  exact_mod_cast this
 ·obtain ⟨f,hf,rfl⟩:=hk x hx
  obtain ⟨g,hg,rfl⟩:=hk y hy
  rw [h.one hf hg e]
variable {ls:List (Option Lv)}
theorem HD (hI:wC ls)(hn:324<=n)(hw:1<=ls.length/\ls.length<=5)(hp:pr=true->3<=ls.length)(bu:∀i,i<ls.length->R.size i=n)(h:dU pr ls.length n R pm){o:Ob}{N:Nat}(ho:db pm N o):∀x∈o.ay,x≠ah->K0 R ls pr n x (j2 pm x):=fun x hx h0=>by
 rcases ho.ptr x hx with c | ⟨e,he,rfl⟩
 ·exact absurd c h0
 ·rw [wP h he]
  exact (h.Hu e he).Sj hI hn hw hp bu
end
theorem dW.me {pm:List dt}{o:Ob}{d:au}(h:dW pm o d):o.me (j2 pm) 0 o.size=d.b:=by
 unfold Ob.me
 apply List.ext_getElem (by simp [h.size])
 intro i h1 h2
 rw [List.getElem_map,List.getElem_range',h.byte,List.getElem?_eq_getElem oZ]
 simp
theorem dW.part {pm:List dt}{o:Ob}{d:au}(h:dW pm o d)(x y:Nat):o.me (j2 pm) x (dB o.size x y)=(d.b.drop x).take y:=by
 have hs:=h.size
 unfold Ob.me
 apply List.ext_getElem (by simp [dB,hs])
 intro i h1 h2
 rw [List.getElem_map,List.getElem_range',h.byte,List.getElem_take,List.getElem_drop]
 simp only [List.length_map,List.length_range',dB] at h1
 rw [List.getElem?_eq_getElem oZ]
 simp
theorem bF.mem {pm:List dt}{all:List (Int×Ob)}{l:List au}(h:bF pm all l)(k:Int):k∈all.map (·.1)↔k∈l.map fun d=>(d.no:Int):=by
 constructor
 ·intro hk
  obtain ⟨⟨q,o⟩,he,rfl⟩:=List.mem_map.1 hk
  rcases h.keys q with ⟨c, -⟩ | ⟨o',d, -,c, -⟩
  ·exact absurd (List.mem_map.2 ⟨_,he,rfl⟩) (qc c)
  ·exact List.mem_map.2 ⟨d,(fh c).1,(fh c).2⟩
 ·intro hk
  obtain ⟨d,hd,rfl⟩:=List.mem_map.1 hk
  rcases h.keys d.no with ⟨-,c⟩ | ⟨o',d',c, -⟩
  ·rw [rY h.ord hd] at c;cases c
  ·exact List.mem_map.2 ⟨_,aI c,rfl⟩
theorem bF.dn {pm:List dt}{all:List (Int×Ob)}{l:List au}(h:bF pm all l):(l.map fun d=>(d.no:Int)).Pairwise (· < ·):=by
 rw [List.pairwise_map]
 exact h.ord.imp fun h=>by omega
theorem bF.ks {pm:List dt}{all:List (Int×Ob)}{l:List au}(h:bF pm all l){ks:List Int}(hp:ks.Perm (all.map (·.1)))(hs:ks.Pairwise (· <= ·)):ks=l.map fun d=>(d.no:Int):=by
 have hd:=h.dn
 have hn:(l.map fun d=>(d.no:Int)).Nodup:=hd.imp fun h=>by omega
 have hp2:(all.map (·.1)).Perm (l.map fun d=>(d.no:Int)):=(List.perm_ext_iff_of_nodup h.kn hn).2 h.mem
 exact (hp.trans hp2).eq_of_pairwise (fun a b _ _ h1 h2=>Int.le_antisymm h1 h2) hs (hd.imp fun h=>Int.le_of_lt h)
theorem bF.len {pm:List dt}{all:List (Int×Ob)}{l:List au}(h:bF pm all l):all.length=l.length:=by
 have hn:(l.map fun d=>(d.no:Int)).Nodup:=h.dn.imp fun h=>by omega
 have:=((List.perm_ext_iff_of_nodup h.kn hn).2 h.mem).length_eq
 simpa using this
theorem dW.since {pm:List dt}{o:Ob}{d:au}(h:dW pm o d)(g:Nat):cn o g=aV d g:=by
 unfold cn aV
 refine List.map_congr_left fun i hi => ?_
 have hi:=List.mem_range.1 hi
 unfold mP mQ
 rw [h.gE i hi]
 cases ht:d.gE i with
 | true=>simp
 | false =>
  have hb:=h.born i hi ht
  unfold cJ at hb
  cases hp:o.ay[i]? with
  | none=>rw [hp] at hb;simp only [Option.getD_none] at hb;rw [<-hb];simp [ah]
  | some x=>rw [hp] at hb;simp only [Option.getD_some] at hb;rw [<-hb];simp
theorem bF.size {pm:List dt}{all:List (Int×Ob)}{l:List au}(h:bF pm all l)(k:Int):du all k=iE l k:=by
 by_cases hk:1<=k/\k<=112
 ·rcases h.keys k with ⟨h1,h2⟩ | ⟨o,d,h1,h2, -,h3⟩
  ·rw [fe hk h1,qj hk h2]
  ·rw [eN hk h1,rS hk h2,h3.size]
 ·rw [dS hk,rR hk]
theorem dV (x:au)(r:List au)(k:Int):ey (x :: r) k=if (x.no:Int)=k then some x else ey r k:=by
 unfold ey
 by_cases c:(x.no:Int)=k
 ·rw [if_pos c,List.find?_cons_of_pos (by simpa using c)]
 ·rw [if_neg c,List.find?_cons_of_neg (by simpa using c)]
theorem wV {o:au}{k:Int}(hk:(o.no:Int)≠k):∀(l:List au) (d:Bool),ey (dF o d l) k=ey l k
 | [],d=>by
  cases d
  ·show ey [o] k=_
   rw [dV,if_neg hk]
  ·rfl
 | x :: r,d=>by
  have ih:=wV hk r (d||decide (o.no<=x.no))
  rw [dF]
  have e:ey ((if x.no=o.no then [] else [x])++dF o (d||decide (o.no<=x.no)) r) k=ey (x :: r) k:=by
   rw [dV]
   by_cases c:x.no=o.no
   ·rw [if_pos c,if_neg oZ,List.nil_append,ih]
   ·rw [if_neg c,List.singleton_append,dV,ih]
  split
  ·rw [List.singleton_append,dV,if_neg hk,e]
  ·rw [List.nil_append,e]
theorem yS {o:au}:∀l:List au,ey (dF o false l) o.no=some o
 | []=>by
  show ey [o] _=_
  rw [dV,if_pos rfl]
 | x :: r=>by
  rw [dF]
  by_cases c:o.no<=x.no
  ·rw [if_pos ⟨rfl,c⟩,List.singleton_append,dV,if_pos rfl]
  ·rw [if_neg (fun h=>c h.2),List.nil_append,if_neg oZ,List.singleton_append,dV,if_neg oZ,Bool.false_or,decide_eq_false c]
   exact yS r
theorem Vh (o:au)(l:List au)(k:Int):ey (dF o false l) k=if (o.no:Int)=k then some o else ey l k:=by
 by_cases c:(o.no:Int)=k
 ·rw [if_pos c,<-c];exact yS l
 ·rw [if_neg c];exact wV c l false
theorem rZ {o:au}:∀l:List au,dF o true l=l.filter fun x=>decide (x.no≠o.no)
 | []=>rfl
 | x :: r=>by
  rw [dF,if_neg (by simp),List.nil_append,Bool.true_or,rZ r]
  by_cases c:x.no=o.no
  ·rw [if_pos c,List.filter_cons_of_neg (by simp [c])];rfl
  ·rw [if_neg c,List.filter_cons_of_pos (by simp [c])];rfl
theorem EO {o:au}:∀ {l:List au},(l.Pairwise fun a b=>a.no<b.no)->(dF o false l).Pairwise fun a b=>a.no<b.no
 | [],_=>List.pairwise_singleton ..
 | x :: r,h=>by
  obtain ⟨h1,h2⟩:=List.pairwise_cons.1 h
  rw [dF]
  by_cases c:o.no<=x.no
  ·rw [if_pos ⟨rfl,c⟩,decide_eq_true c,Bool.false_or,rZ]
   have hf:(r.filter fun x=>decide (x.no≠o.no)).Pairwise fun a b=>a.no<b.no:=h2.sublist List.filter_sublist
   have hm:∀y∈r.filter fun x=>decide (x.no≠o.no),x.no<y.no/\o.no<y.no:=fun y hy=>by
    have:=h1 y (List.mem_filter.1 hy).1
    omega
   rw [List.singleton_append,List.pairwise_cons]
   by_cases c2:x.no=o.no
   ·rw [if_pos c2,List.nil_append]
    exact ⟨fun y hy=>(hm y hy).2,hf⟩
   ·rw [if_neg c2,List.singleton_append,List.pairwise_cons]
    refine ⟨fun y hy => ?_,fun y hy=>(hm y hy).1,hf⟩
    rcases List.mem_cons.1 hy with rfl | hy
    ·omega
    ·exact (hm y hy).2
  ·rw [if_neg (fun h=>c h.2),List.nil_append,if_neg oZ,decide_eq_false c,Bool.false_or,List.singleton_append,List.pairwise_cons]
   refine ⟨fun y hy => ?_,EO h2⟩
   rcases kT hy with rfl | hy
   ·omega
   ·exact h1 y hy
theorem bF.put {pm:List dt}{all:List (Int×Ob)}{l:List au}(h:bF pm all l){o:Ob}{d:au}(hn:((ec all d.no o).map (·.1)).Nodup)(hd:1<=d.no/\d.no<=112)(hi:db pm (cY o.size 1024) o)(hr:dW pm o d):bF pm (ec all d.no o) (dF d false l):=by
 refine ⟨fun k => ?_,hn,EO h.ord,fun x hx => ?_⟩
 ·rw [ig,Vh]
  by_cases c:(d.no:Int)=k
  ·rw [if_pos c,if_pos c]
   exact .inr ⟨o,d,rfl,rfl,hi,hr⟩
  ·rw [if_neg c,if_neg c]
   exact h.keys k
 ·rcases kT hx with rfl | hx
  ·exact hd
  ·exact h.no x hx
theorem Vi {l:List au}(h:l.Pairwise fun a b=>a.no<b.no){i:Nat}{d:au}(hi:l[i]? = some d)(k:Int):ey (l.take i++l.drop (i+1)) k=if (d.no:Int)=k then none else ey l k:=by
 induction l generalizing i with
 | nil=>simp at hi
 | cons x r ih =>
  obtain ⟨h1,h2⟩:=List.pairwise_cons.1 h
  rcases i with _ | i
  ·simp only [List.getElem?_cons_zero,Option.some.injEq] at hi
   subst hi
   rw [List.take_zero,List.nil_append,List.drop_succ_cons,List.drop_zero,dV]
   by_cases c:(x.no:Int)=k
   ·rw [if_pos c]
    refine Ec fun y hy => ?_
    have:=h1 y hy
    omega
   ·rw [if_neg c,if_neg c]
  ·have jh:r[i]? = some d:=by simpa using hi
   have:=h1 d (List.mem_of_getElem? jh)
   rw [List.take_succ_cons,List.drop_succ_cons,List.cons_append,dV,dV,ih h2 jh]
   by_cases c:(x.no:Int)=k
   ·rw [if_pos c,if_pos c,if_neg oZ]
   ·rw [if_neg c,if_neg c]
theorem bF.del {pm:List dt}{all:List (Int×Ob)}{l:List au}(h:bF pm all l){i:Nat}{d:au}(hi:l[i]? = some d):bF pm (oN all d.no) (l.take i++l.drop (i+1)):=by
 refine ⟨fun k => ?_, ?_, ?_,fun x hx=>h.no x ?_⟩
 ·rw [Ax,Vi h.ord hi]
  by_cases c:(d.no:Int)=k
  ·rw [if_pos c,if_pos c]
   exact .inl ⟨rfl,rfl⟩
  ·rw [if_neg c,if_neg c]
   exact h.keys k
 ·unfold oN
  exact h.kn.sublist (List.filter_sublist.map _)
 ·have e:l.take i++l.drop (i+1)=l.eraseIdx i:=(List.eraseIdx_eq_take_drop_succ ..).symm
  rw [e]
  exact h.ord.sublist (List.eraseIdx_sublist ..)
 ·rcases List.mem_append.1 hx with hx | hx
  ·exact List.mem_of_mem_take hx
  ·exact List.mem_of_mem_drop hx
theorem aap {b x:List UInt8}{size a:Nat}(h:a+x.length<=size)(hb:b.length<=size)(j:Nat):((Lp b size a x)[j]?).getD (0:UInt8)=if a<=j/\j<a+x.length then (x[j - a]?).getD 0 else (b[j]?).getD 0:=by
 have hp:∀j:Nat,((dH size b)[j]?).getD (0:UInt8)=(b[j]?).getD 0:=fun j=>by
  unfold dH
  rw [List.take_of_length_le hb]
  by_cases c:j<b.length
  ·rw [List.getElem?_append_left c]
  ·rw [List.getElem?_append_right oZ,List.getElem?_eq_none (l:=b) oZ,List.getElem?_replicate]
   split <;> rfl
 have hl:=dR size b
 unfold Lp
 by_cases c1:j<a
 ·rw [if_neg oZ,List.append_assoc,List.getElem?_append_left (by rw [List.length_take];omega),List.getElem?_take,if_pos c1,hp]
 ·by_cases c2:j<a+x.length
  ·rw [if_pos oZ,List.getElem?_append_left (by rw [List.length_append,List.length_take];omega),List.getElem?_append_right (by rw [List.length_take];omega),List.length_take,show j - min a (dH size b).length=j - a by omega]
  ·rw [if_neg oZ,List.getElem?_append_right (by rw [List.length_append,List.length_take];omega),List.length_append,List.length_take,List.getElem?_drop,<-hp j]
   congr 2
   omega
theorem dW.write {pm:List dt}{o:Ob}{d:au}(h:dW pm o d){a m:Nat}{b:List UInt8}(hb:b.length=m)(K5:a+m<=65536){bW:List (Int×List UInt8)}(hn:(bW.map (·.1)).Nodup)
  (hf:∀q,aH bW q=if cR a m q then some (jL (o.byte (j2 pm)) a b (max o.size (a+m)) q.toNat) else aH o.fresh q) (v:Value) :
  dW pm { o with size:=max o.size (a+m),fresh:=bW,clean:=false } { d with b:=Lp d.b (max d.b.length (a+m)) a b,gE:=qm d a m,v:=v }:=by
 have hs:=h.size
 have bu:=h.sz
 have Gb:(Lp d.b (max d.b.length (a+m)) a b).length=max d.b.length (a+m):=Ja oZ
 refine ⟨h.us,by rw [Gb,hs],by simp only;omega,fun e he => ?_,fun j => ?_,fun i hi => ?_,fun i hi ht => ?_⟩
 ·have hk:=eW hn he
  rw [hf] at hk
  split at hk
  ·rename_i ht
   have ht:=of_decide_eq_true ht
   have:=Option.some.inj hk
   rw [<-this,iD]
   unfold aS
   omega
  ·exact h.fp _ (aI hk)
 ·rw [aap oZ oZ]
  have hold:=h.byte j
  have hq:((j / 1024:Nat):Int).toNat=j / 1024:=Int.toNat_natCast _
  unfold Ob.byte
  rw [de]
  simp only [hf,hq]
  by_cases ht:cR a m ((j / 1024:Nat):Int)=true
  ·have ht':=of_decide_eq_true ht
   rw [if_pos ht]
   simp only
   unfold jL
   by_cases hl:j % 1024<aS (max o.size (a+m)) (j / 1024)
   ·rw [List.getElem?_map,List.getElem?_range' hl]
    simp only [Option.map_some,Option.getD_some]
    unfold wrB
    rw [show j / 1024*1024+1*(j % 1024)=j by omega,hold]
   ·rw [List.getElem?_eq_none (by rw [List.length_map,List.length_range'];omega)]
    unfold aS at hl
    rw [if_neg oZ,List.getElem?_eq_none oZ]
  ·rw [if_neg ht]
   have FB:¬(a<=j/\j<a+b.length):=fun c=>ht (decide_eq_true oZ)
   rw [if_neg FB,<-hold]
   unfold Ob.byte
   rw [de]
 ·simp only
  rw [hf]
  unfold qm
  by_cases ht:cR a m (i:Int)=true
  ·rw [if_pos ht,ht];simp
  ·rw [if_neg ht,h.gE i hi];simp [ht]
 ·unfold qm at ht
  simp only [Bool.or_eq_false_iff] at ht
  exact h.born i hi ht.1
theorem db.write {pm:List dt}{o:Ob}(h:db pm (cY o.size 1024) o)(bu:o.size<=65536){a m:Nat}{b:List UInt8}{old:Nat->UInt8}(K5:a+m<=65536){bW:List (Int×List UInt8)}(hn:(bW.map (·.1)).Nodup)
  (hf:∀q,aH bW q=if cR a m q then some (jL old a b (max o.size (a+m)) q.toNat) else aH o.fresh q) :
  db pm (cY (max o.size (a+m)) 1024) { o with size:=max o.size (a+m),fresh:=bW,clean:=false }:=by
 have hN:cY o.size 1024<=cY (max o.size (a+m)) 1024:=by unfold cY;omega
 refine ⟨h.ptr,fun e he => ?_,hn,Nat.le_trans h.pl (by unfold Hw cY;unfold cY at hN;omega),fun i hi=>h.pz i oZ,h.il,by unfold cY;omega,h.rt,fun hc=>by cases hc⟩
 have hk:=eW hn he
 rw [hf] at hk
 split at hk
 ·rename_i ht
  have ht:=of_decide_eq_true ht
  have:=Option.some.inj hk
  rw [<-this,iD]
  unfold aS cY
  omega
 ·obtain ⟨h1,h2,h3⟩:=h.fk _ (aI hk)
  exact ⟨h1,by omega,h3⟩
theorem HE {β:Type}{L:List (Int×β)}(h:∀q,aH L q=none):L=[]:=by
 cases L with
 | nil=>rfl
 | cons e r =>
  have:=h e.1
  rw [show e=(e.1,e.2) from rfl,df] at this
  cases this
theorem db.same {pm:List dt}{N:Nat}{o:Ob}(h:db pm N o){bW:List (Int×List UInt8)}(hn:(bW.map (·.1)).Nodup)(hf:∀q,aH bW q=aH o.fresh q):db pm N { o with fresh:=bW }:=by
 refine ⟨h.ptr,fun e he => ?_,hn,h.pl,h.pz,h.il,h.sz,h.rt,fun hc => ?_⟩
 ·have hk:=eW hn he
  rw [hf] at hk
  exact h.fk _ (aI hk)
 ·obtain ⟨c1,c2,c3,c4⟩:=h.cl hc
  exact ⟨HE fun q=>by rw [hf,c1];rfl,⟨c2.ok,c2.top⟩,c3,c4⟩
theorem dW.same {pm:List dt}{o:Ob}{d:au}(h:dW pm o d){bW:List (Int×List UInt8)}(hn:(bW.map (·.1)).Nodup)(hf:∀q,aH bW q=aH o.fresh q)(k:Nat)(v:Value):dW pm { o with fresh:=bW } { d with no:=k,v:=v }:=by
 refine ⟨h.us,h.size,h.sz,fun e he => ?_,fun j => ?_,fun i hi => ?_,h.born⟩
 ·have hk:=eW hn he
  rw [hf] at hk
  exact h.fp _ (aI hk)
 ·rw [<-h.byte j]
  unfold Ob.byte
  rw [de,de,hf]
 ·rw [hf];exact h.gE i hi
theorem ER {b:List UInt8}{z:Nat}(j:Nat):((dH z b)[j]?).getD (0:UInt8)=if j<z then (b[j]?).getD 0 else 0:=by
 unfold dH
 by_cases c:j<z
 ·rw [if_pos c]
  by_cases c2:j<b.length
  ·rw [List.getElem?_append_left (by rw [List.length_take];omega),List.getElem?_take,if_pos c]
  ·rw [List.getElem?_append_right (by rw [List.length_take];omega),List.getElem?_eq_none (l:=b) oZ,List.getElem?_replicate]
   split <;> rfl
 ·rw [if_neg c,List.getElem?_eq_none (by rw [List.length_append,List.length_take,List.length_replicate];omega)]
  rfl
theorem dW.ae7 {pm:List dt}{o:Ob}{d:au}(h:dW pm o d){z:Nat}(hz:z<o.size){bW:List (Int×List UInt8)}(hf:∀q,aH bW q=jD (j2 pm) o z q)(j:Nat) :
  ({ o with size:=z,ay:=o.ay.take (aW z),fresh:=bW,clean:=false }:Ob).byte (j2 pm) j=((dH z d.b)[j]?).getD 0:=by
 rw [ER,<-h.byte j]
 have td:∀i,cJ (o.ay.take (aW z)) i=if i<aW z then cJ o.ay i else ah:=fun i=>by
  unfold cJ
  rw [List.getElem?_take]
  split <;> rfl
 unfold Ob.byte
 rw [de,de]
 simp only [hf,td]
 unfold jD
 by_cases c:j / 1024<aW z
 ·rw [if_pos (show ((j / 1024:Nat):Int)<aW z by omega)]
  by_cases c2:0<z % 1024/\((j / 1024:Nat):Int)=(z / 1024:Nat)
  ·rw [if_pos c2]
   simp only
   have e:j / 1024=z / 1024:=by omega
   rw [List.getElem?_take,<-e,Ob.nC]
   by_cases c3:j % 1024<z % 1024
   ·rw [if_pos c3,if_pos oZ]
    unfold Ob.me
    rw [List.getElem?_map,List.getElem?_range' (by unfold aS;omega)]
    simp only [Option.map_some,Option.getD_some]
    rw [show j / 1024*1024+1*(j % 1024)=j by omega]
    unfold Ob.byte
    rw [de]
   ·rw [if_neg c3,if_neg oZ];rfl
  ·rw [if_neg c2,if_pos c,if_pos (show j<z by unfold aW at c;omega)]
 ·rw [if_neg (show ¬((j / 1024:Nat):Int)<aW z by omega),if_neg c,if_neg (show ¬j<z by unfold aW at c;omega)]
  simp
theorem dW.cut {pm:List dt}{o:Ob}{d:au}(h:dW pm o d){z:Nat}(hz:z<o.size){bW:List (Int×List UInt8)}(hn:(bW.map (·.1)).Nodup)(hf:∀q,aH bW q=jD (j2 pm) o z q)(v:Value) :
  dW pm { o with size:=z,ay:=o.ay.take (aW z),fresh:=bW,clean:=false } { xJ d z 64 with b:=dH z d.b,v:=v }:=by
 have bu:=h.sz
 refine ⟨h.us,(dR z d.b).symm,by simp only;omega,fun e he => ?_,h.ae7 hz hf,fun i hi => ?_,fun i hi ht => ?_⟩
 ·have hk:=eW hn he
  rw [hf] at hk
  unfold jD at hk
  split at hk
  ·split at hk
   ·rename_i c c2
    rw [<-Option.some.inj hk,List.length_take,Ob.nC,Ob.nB]
    unfold aS
    omega
   ·exact h.fp _ (aI hk)
  ·cases hk
 ·simp only [xJ]
  rw [hf,if_pos hi]
  unfold jD
  by_cases c:(i:Int)<aW z
  ·rw [if_pos c,if_neg (show ¬z<=1024*i by unfold aW at c;omega)]
   by_cases c2:0<z % 1024/\(i:Int)=(z / 1024:Nat)
   ·rw [if_pos c2,if_pos (show z<1024*i+1024 by omega)];rfl
   ·rw [if_neg c2,if_neg (show ¬z<1024*i+1024 by unfold aW at c;omega)]
    exact h.gE i hi
  ·rw [if_neg c,if_pos (show z<=1024*i by unfold aW at c;omega)];rfl
 ·simp only [xJ] at ht ⊢
  rw [if_pos hi] at ht
  have td:cJ (o.ay.take (aW z)) i=if i<aW z then cJ o.ay i else ah:=by
   unfold cJ
   rw [List.getElem?_take]
   split <;> rfl
  rw [td]
  by_cases c:i<aW z
  ·have c1:¬z<=1024*i:=by unfold aW at c;omega
   rw [if_neg c1] at ht
   rw [if_pos c,if_neg (fun x=>c1 x.2)]
   split at ht
   ·cases ht
   ·exact h.born i hi ht
  ·rw [if_neg c,if_pos ⟨hi,by unfold aW at c;omega⟩];rfl
theorem dW.grow {pm:List dt}{o:Ob}{d:au}(h:dW pm o d){z:Nat}(hz:o.size<=z)(Iw:z<=65536){bW:List (Int×List UInt8)}(hn:(bW.map (·.1)).Nodup)(hf:∀q,aH bW q=aH o.fresh q)(v:Value) :
  dW pm { o with size:=z,fresh:=bW,clean:=false } { d with b:=dH z d.b,v:=v }:=by
 have hs:=h.size
 refine ⟨h.us,(dR z d.b).symm,Iw,fun e he => ?_,fun j => ?_,fun i hi => ?_,h.born⟩
 ·have hk:=eW hn he
  rw [hf] at hk
  exact h.fp _ (aI hk)
 ·rw [ER]
  have e:(if j<z then (d.b[j]?).getD 0 else 0)=(d.b[j]?).getD 0:=by
   split
   ·rfl
   ·rw [List.getElem?_eq_none oZ];rfl
  rw [e,<-h.byte j]
  unfold Ob.byte
  rw [de,de]
  simp only [hf]
 ·rw [hf];exact h.gE i hi
theorem db.cut {pm:List dt}{o:Ob}(h:db pm (cY o.size 1024) o){z:Nat}(hz:z<o.size)(bu:o.size<=65536){rd:Pt->List UInt8}{bW:List (Int×List UInt8)}(hn:(bW.map (·.1)).Nodup)(hf:∀q,aH bW q=jD rd o z q) :
  db pm (cY z 1024) { o with size:=z,ay:=o.ay.take (aW z),fresh:=bW,clean:=false }:=by
 have xZ:aW z=cY z 1024:=rfl
 have td:∀i,cJ (o.ay.take (aW z)) i=if i<aW z then cJ o.ay i else ah:=fun i=>by
  unfold cJ
  rw [List.getElem?_take]
  split <;> rfl
 refine ⟨fun x hx=>h.ptr x (List.mem_of_mem_take hx),fun e he => ?_,hn, ?_,fun i hi => ?_,h.il,by unfold cY;omega,h.rt,fun hc=>by cases hc⟩
 ·have hk:=eW hn he
  rw [hf] at hk
  unfold jD at hk
  split at hk
  ·rename_i c
   rw [xZ] at c
   split at hk
   ·rename_i c2
    refine ⟨by omega,c, ?_⟩
    rw [<-Option.some.inj hk,List.length_take]
    omega
   ·obtain ⟨h1, -,h3⟩:=h.fk _ (aI hk)
    exact ⟨h1,c,h3⟩
  ·cases hk
 ·simp only [List.length_take]
  have:=(rX (N:=cY z 1024) (by unfold cY;omega)).2
  omega
 ·simp only [td]
  rw [if_neg (by rw [xZ];omega)]
theorem db.grow {pm:List dt}{o:Ob}(h:db pm (cY o.size 1024) o){z:Nat}(hz:o.size<=z)(Iw:z<=65536){bW:List (Int×List UInt8)}(hn:(bW.map (·.1)).Nodup)(hf:∀q,aH bW q=aH o.fresh q):db pm (cY z 1024) { o with size:=z,fresh:=bW,clean:=false }:=by
 have hN:cY o.size 1024<=cY z 1024:=by unfold cY;omega
 refine ⟨h.ptr,fun e he => ?_,hn,Nat.le_trans h.pl (by unfold Hw cY;unfold cY at hN;omega),fun i hi=>h.pz i oZ,h.il,by unfold cY;omega,h.rt,fun hc=>by cases hc⟩
 have hk:=eW hn he
 rw [hf] at hk
 obtain ⟨h1,h2,h3⟩:=h.fk _ (aI hk)
 exact ⟨h1,by omega,h3⟩
theorem Rb (pm:List dt):db pm (cY bB.size 1024) bB:=by
 refine ⟨(fun x hx=>by cases hx),(fun e he=>by cases he),List.nodup_nil,Nat.zero_le _,fun i _=>by simp [cJ,bB],Nat.zero_le _,by decide,⟨rfl,by refine ⟨?_, ?_, ?_, ?_, ?_, ?_, ?_, ?_, ?_⟩ <;> decide⟩,fun hc=>by cases hc⟩
theorem LR (pm:List dt)(k:Nat):dW pm bB (Hc k):=by
 refine ⟨rfl,rfl,Nat.zero_le _,(fun e he=>by cases he),fun j => ?_,fun i _=>rfl,fun i _ _=>by simp [cJ,bB,Hc,ah]⟩
 unfold Ob.byte
 rw [de]
 simp [bB,Hc,cJ,aH]
def Vj:Ob:=⟨false,8064,ah,[],[],[],true⟩
theorem Jn (hz:∀x∈fJ (List.replicate 112 eu),x=0):wT [] [] Vj []:=by
 have aQ:fB ah=0/\ah.Ok:=⟨rfl,by refine ⟨?_, ?_, ?_, ?_, ?_, ?_, ?_, ?_, ?_⟩ <;> decide⟩
 refine ⟨⟨fun k=>.inl ⟨rfl,rfl⟩,List.nodup_nil,List.Pairwise.nil,(fun _ h=>by cases h)⟩,(fun k o h=>by cases h),rfl,⟨(fun x hx=>by cases hx),(fun e he=>by cases he),List.nodup_nil,Nat.zero_le _,fun i _=>by simp [cJ,Vj],Nat.zero_le _,by decide,aQ,fun _=>⟨rfl,⟨aQ,.inl ⟨rfl,fun i=>by simp [cJ,Vj],(fun x hx=>by cases hx)⟩⟩,Nat.zero_le _,(fun x hx=>by cases hx)⟩⟩,fun j => ?_⟩
 rw [sN]
 have h1:Vj.byte (j2 []) j=0:=by
  unfold Ob.byte
  rw [de]
  simp [Vj,cJ,aH]
 rw [h1]
 cases h:(fJ (List.replicate 112 eu))[j]? with
 | none=>rfl
 | some x=>rw [hz x (List.mem_of_getElem? h)];rfl
theorem ES:∀x∈fJ (List.replicate 112 eu),x=0:=fun x hx=>by
 obtain ⟨s,hs,hx⟩:=List.mem_flatMap.1 hx
 rw [(List.mem_replicate.1 hs).2] at hx
 have h:(eY eu).all (fun x=>x==0)=true:=by decide +kernel
 exact by simpa using List.all_eq_true.1 h x hx
end Go.Sl
