/-
  Texts put together (18).
-/
import Derived.Test.YtcfioaeamfappaaGreatDoorZTopFull17
namespace Go.Sl
set_option maxRecDepth 10000
structure Qt (pool:Nat)(tp:Tp)(n w:Nat)(ring:Nat->Option Ub)(R:Rk):Prop where
 on:R.on
 sz:∀i,i<w->R.live i/\R.size i=n
 lb:∀k,k<w->R.now k (fA n 0)=whole (dJ ⟨pool,[tp],0,k⟩)
 rg:∀i,i<w->iL R n i fun _ j=>ring j
 q:∀i,i<w->∀a,a<18\/274<=a->R.pl i a=R.now i a
theorem rR {n k j:Nat}(hk:k<4)(hj:j<8)(hn:324<=n):fA n k+1+j<n/\(fA n k+1+j<18\/n - 18<=fA n k+1+j)/\(fA n k+1+j<18\/274<=fA n k+1+j)/\fA n k+1+j≠0:=by
 obtain rfl | rfl | rfl | rfl:k=0\/k=1\/k=2\/k=3:=by omega
 all_goals
  simp only [fA]
  omega
theorem Z5 {n k j k' j':Nat}(hk:k<4)(rv:k'<4)(hj:j<8)(zb:j'<8)(hn:324<=n)(h:j≠j'):fA n k+1+j≠fA n k'+1+j':=by
 obtain rfl | rfl | rfl | rfl:k=0\/k=1\/k=2\/k=3:=by omega
 all_goals
  obtain rfl | rfl | rfl | rfl:k'=0\/k'=1\/k'=2\/k'=3:=by omega
  all_goals
   simp only [fA]
   omega
theorem iL.congr {R R':Rk}{n i:Nat}{ring:Nat->Nat->Option Ub}(hn:324<=n)(h:iL R n i ring)(e:∀a,a<18\/n - 18<=a->R'.now i a=R.now i a):iL R' n i ring:=fun k j hk hj=>by
 have:=h k j hk hj
 rw [e _ (rR hk hj hn).2.1]
 exact this
section
variable {ls:List (Option Lv)}(hI:wm ls)
include hI
theorem ij {R:Rk}(i a:Nat):(R.run (iF ls)).now i a=R.now i a:=by
 rw [G5 hI]
 exact bJ fun b h=>by
  obtain ⟨x, -,hx⟩:=List.mem_map.1 h
  cases hx
theorem Hs {R:Rk}(bW:R.on){i:Nat}(hi:i<ls.length)(a:Nat):(R.run (iF ls)).pl i a=R.now i a:=by
 rw [G5 hI]
 exact PU bW (List.mem_range.2 hi)
theorem Qt.mark {pool:Nat}{tp:Tp}{n:Nat}{ring:Nat->Option Ub}{R R2:Rk}(hn:324<=n)(h:Qt pool tp n ls.length ring R)(ZL:R2.on)(hz:∀i,R2.size i=R.size i)(hv:∀i,R2.live i↔R.live i)(hg:∀i a,a<18\/n - 18<=a->R2.now i a=R.now i a){u:Ub}(hu:zC u=0/\u.Ok) :
  Qt pool tp n ls.length (upd ring (u.txg % 8) (some u)) ((R2.run (oA n ls u)).run (iF ls))/\(∀i a,i<ls.length->((R2.run (oA n ls u)).run (iF ls)).pl i a=((R2.run (oA n ls u)).run (iF ls)).now i a) /\
   ∀i a,(18<=a/\a<n - 18)->((R2.run (oA n ls u)).run (iF ls)).now i a=R2.now i a:=by
 have R3:(R2.run (oA n ls u)).on:=ZL.run _
 have hm8:u.txg % 8<8:=Nat.mod_lt _ oZ
 have Z6:∀i a,(∀k,k<4->a≠fA n k+1+u.txg % 8)->((R2.run (oA n ls u)).run (iF ls)).now i a=R2.now i a:=fun i a ha=>by
  rw [ij hI,bJ (fun b hb=>by
   obtain ⟨-, -,k,hk,e⟩:=(Ar hI).1 hb
   exact ha k hk e)]
 have hall:∀i a,i<ls.length->((R2.run (oA n ls u)).run (iF ls)).pl i a=((R2.run (oA n ls u)).run (iF ls)).now i a:=fun i a hi=>by
  rw [Hs hI R3 hi,ij hI]
 have bx:∀i,((R2.run (oA n ls u)).run (iF ls)).size i=R.size i:=fun i=>by rw [Rk.dj,Rk.dj,hz]
 refine ⟨⟨R3.run _,fun i hi=>⟨?_,by rw [bx];exact (h.sz i hi).2⟩,fun k hk => ?_,fun i hi k j hk hj => ?_,fun i hi a _=>hall i a hi⟩,hall,fun i a ha=>Z6 i a fun k hk => ?_⟩
 ·rw [Rk.eh,Rk.eh,hv]
  exact (h.sz i hi).1
 ·rw [Z6 k (fA n 0) (fun k' rv=>fun c=>(rR rv hm8 hn).2.2.2 (by rw [<-c];rfl)),hg k _ (.inl (by simp only [fA];omega))]
  exact h.lb k hk
 ·by_cases hj8:j=u.txg % 8
  ·subst hj8
   have e:upd ring (u.txg % 8) (some u) (u.txg % 8)=some u:=if_pos rfl
   simp only [e]
   refine ⟨?_,hu⟩
   rw [ij hI]
   refine gZ ZL (by rw [hz,(h.sz i hi).2];exact (rR hk hj hn).1) (fun b' hb=>((Ar hI).1 hb).2.1) ((Ar hI).2 ⟨hi,rfl,k,hk,rfl⟩)
  ·have e:upd ring (u.txg % 8) (some u) j=ring j:=if_neg hj8
   simp only [e]
   have:=h.rg i hi k j hk hj
   rw [Z6 i _ (fun k' rv=>Z5 hk rv hj hm8 hn hj8),hg i _ (rR hk hj hn).2.1]
   exact this
 ·have:=rR hk hm8 hn
  omega
theorem Qt.Ht {pool:Nat}{tp:Tp}{n:Nat}{ring:Nat->Option Ub}{R R2:Rk}(hn:324<=n)(h:Qt pool tp n ls.length ring R)(hg:qk n R R2){u:Ub}(hu:zC u=0/\u.Ok) :
  Qt pool tp n ls.length (upd ring (u.txg % 8) (some u)) (((R2.run (iF ls)).run (oA n ls u)).run (iF ls))/\(∀i a,i<ls.length->(((R2.run (iF ls)).run (oA n ls u)).run (iF ls)).pl i a=(((R2.run (iF ls)).run (oA n ls u)).run (iF ls)).now i a) /\
   ∀i a,(18<=a/\a<n - 18)->(((R2.run (iF ls)).run (oA n ls u)).run (iF ls)).now i a=R2.now i a:=by
 obtain ⟨h1,h2,h3⟩:=h.mark hI hn (R2:=R2.run (iF ls)) (hg.on.run _) (fun i=>by rw [Rk.dj,hg.size]) (fun i=>by rw [Rk.eh,hg.live]) (fun i a ha=>by rw [ij hI,hg.now i a oZ]) hu
 exact ⟨h1,h2,fun i a ha=>by rw [h3 i a ha,ij hI]⟩
omit hI in
theorem Qt.log {pool w:Nat}{tp:Tp}{n:Nat}{ring:Nat->Option Ub}{R R2:Rk}(hn:324<=n)(h:Qt pool tp n w ring R)(hg:IX R R2):Qt pool tp n w ring R2:=by
 refine ⟨hg.on,fun i hi=>⟨(hg.live i).2 (h.sz i hi).1,by rw [hg.size];exact (h.sz i hi).2⟩,fun k hk => ?_,fun i hi=>(h.rg i hi).congr hn fun a ha=>hg.now i a oZ,fun i hi a ha=>by rw [hg.pl,hg.now i a ha];exact h.q i hi a ha⟩
 rw [hg.now k _ (.inl (by simp only [fA];omega))]
 exact h.lb k hk
theorem Qt.flush {pool:Nat}{tp:Tp}{n:Nat}{ring:Nat->Option Ub}{R:Rk}(hn:324<=n)(h:Qt pool tp n ls.length ring R):Qt pool tp n ls.length ring (R.run (iF ls)):=by
 refine ⟨h.on.run _,fun i hi=>⟨(Rk.eh ..).2 (h.sz i hi).1,by rw [Rk.dj];exact (h.sz i hi).2⟩,fun k hk=>by rw [ij hI];exact h.lb k hk,fun i hi=>(h.rg i hi).congr hn fun a ha=>ij hI i a,fun i hi a _=>by rw [Hs hI h.on hi,ij hI]⟩
omit hI in
theorem Qt.w6 {pool:Nat}{tp:Tp}{n:Nat}{ring:Nat->Option Ub}{R:Rk}(hn:324<=n)(h:Qt pool tp n ls.length ring R)(hR:R.Ok):Qt pool tp n ls.length ring R.w6:=by
 refine ⟨Zk,fun i hi=>⟨PV.2 (h.sz i hi).1,by rw [PW hR];exact (h.sz i hi).2⟩,fun k hk => ?_,fun i hi=>(h.rg i hi).congr hn fun a ha => ?_,fun i hi a _=>by rw [Zj,ig]⟩
 ·rw [ig,h.q k hk _ (.inl (by simp only [fA];omega))];exact h.lb k hk
 ·rw [ig,h.q i hi a oZ]
end
structure qv (pool T:Nat)(u:Ub)(ring:Nat->Option Ub):Prop where
 top:ring (T % 8)=some u
 tx:u.txg=T
 one:1<=T
 pl:u.pool=pool
 all:∀j v,ring j=some v->j<8/\v.pool=pool/\v.txg<=T/\v.txg % 8=j
section
variable {pool T:Nat}{u:Ub}{ring:Nat->Option Ub}
theorem qv.first {v:Ub}(hp:v.pool=pool)(ht:v.txg=1):qv pool 1 v (upd (fun _=>none) (v.txg % 8) (some v)):=by
 refine ⟨by rw [ht];rfl,ht,Nat.le_refl _,hp,fun j x h => ?_⟩
 unfold upd at h
 split at h
 ·cases h;exact ⟨by omega,hp,by omega,by omega⟩
 ·cases h
theorem qv.next (h:qv pool T u ring){v:Ub}(hp:v.pool=pool)(ht:v.txg=T+1):qv pool (T+1) v (upd ring (v.txg % 8) (some v)):=by
 refine ⟨by rw [ht];exact if_pos rfl,ht,by omega,hp,fun j x hx => ?_⟩
 unfold upd at hx
 split at hx
 ·cases hx;exact ⟨by omega,hp,by omega,by omega⟩
 ·obtain ⟨h1,h2,h3,h4⟩:=h.all j x hx
  exact ⟨h1,h2,by omega,h4⟩
theorem qv.again (h:qv pool T u ring):upd ring (u.txg % 8) (some u)=ring:=by
 funext j
 unfold upd
 split
 ·subst j;rw [h.tx];exact h.top.symm
 ·rfl
theorem qv.aeR (h:qv pool T u ring){w:Nat}(hw:1<=w){x:Ub}(hb:mI (fun _ _ j=>ring j) pool w x):x=u:=by
 have hu:Mc (fun _ _ j=>ring j) pool w u:=⟨0,0,T % 8,by omega,by omega,Nat.mod_lt _ oZ,h.top,h.pl⟩
 rcases hb with ⟨-,hn⟩ | ⟨⟨i,k,j, -, -, -,hj, -⟩, -,hm⟩
 ·exact absurd hu (hn u)
 ·have h1:=hm u hu
  have hj:ring j=some x:=hj
  obtain ⟨-, -,h3,h4⟩:=h.all j x hj
  have e:x.txg=T:=by have:=h.tx;omega
  rw [e] at h4
  subst h4
  have:=h.top
  rw [hj] at this
  exact Option.some.inj this
theorem qv.jE (h:qv pool T u ring):((List.range 8).filterMap ring).length<=19/\∀j v,ring j=some v->v∈(List.range 8).filterMap ring:=by
 refine ⟨Nat.le_trans (List.length_filterMap_le ..) (by simp),fun j v hv => ?_⟩
 exact List.mem_filterMap.2 ⟨j,List.mem_range.2 (h.all j v hv).1,hv⟩
end
theorem ez.congr {R R':Rk}{w no:Nat}{G:List UInt8}(h:ez R w no G)(e:∀i a,i<w->18<=a->a<274->R'.now i a=R.now i a):ez R' w no G:=by
 refine ⟨h.len,fun k hk => ?_⟩
 obtain ⟨s,h1,h2⟩:=h.sec k hk
 exact ⟨s,fun i hi=>by rw [e i _ hi oZ oZ];exact h1 i hi,h2⟩
theorem ez.mono {R:Rk}{w no no':Nat}{G:List UInt8}(h:ez R w no G)(hn:no<=no'):ez R w no' G:=by
 refine ⟨h.len,fun k hk => ?_⟩
 obtain ⟨s,h1,h2⟩:=h.sec k hk
 refine ⟨s,h1, ?_⟩
 rcases h2 with ⟨a,b,c⟩ | h2
 ·exact .inl ⟨a,by omega,c⟩
 ·exact .inr h2
section
variable {ls:List (Option Lv)}(hI:wm ls)
include hI
theorem Lr {pool T no:Nat}{tp:Tp}{n:Nat}{ring:Nat->Option Ub}{R:Rk}{u:Ub}{G:List UInt8}(hw:1<=ls.length/\ls.length<=5)(hn:324<=n)(hq:Qt pool tp n ls.length ring R)(hr:qv pool T u ring)(hu:zC u=0/\u.Ok)(hG:ez R ls.length no G)(eV:1<=no/\no+22528<=281474976710656) :
  Qt pool tp n ls.length ring (Qn n ls no u R)/\ez (Qn n ls no u R) ls.length (bP ls 22528 R no 0 (aX R ls)).2 G/\(∀i a,i<ls.length->(Qn n ls no u R).pl i a=(Qn n ls no u R).now i a)/\(∀i a,274<=a/\a<n - 18->(Qn n ls no u R).now i a=R.now i a) /\
   no<=(bP ls 22528 R no 0 (aX R ls)).2/\(bP ls 22528 R no 0 (aX R ls)).2<=no+22528/\(bP ls 22528 R no 0 (aX R ls)).1.ws.length<=R.ws.length+5*22528/\(bP ls 22528 R no 0 (aX R ls)).1.on/\∀i,(bP ls 22528 R no 0 (aX R ls)).1.size i=R.size i/\((bP ls 22528 R no 0 (aX R ls)).1.live i↔R.live i):=by
 rw [hG.all hI hw.1 hq.on.2]
 obtain ⟨h1,h2,h3,h4,h5⟩:=IY hI hw 22528 R no G 0 G hq.on (fun i hi=>by rw [(hq.sz i hi).2];exact hn) hG (by rw [hG.len];omega) (by rw [hG.len];omega) eV.1 eV.2
 have e:sA G 0 G=G:=by simp [sA]
 rw [e] at h2
 unfold Qn
 rw [hG.all hI hw.1 hq.on.2]
 generalize bP ls 22528 R no 0 G=X at *
 obtain ⟨m1,m2,m3⟩:=(hq.log hn h1).mark hI hn (R2:=X.1) h1.on (fun _=>rfl) (fun _=>Iff.rfl) (fun _ _ _=>rfl) hu
 rw [hr.again] at m1
 exact ⟨m1,h2.congr fun i a _ ha hb=>m3 i a oZ,m2,fun i a ha=>by rw [m3 i a oZ,h1.now i a oZ],h3,h4,h5,h1.on,fun i=>⟨h1.size i,h1.live i⟩⟩
end
theorem I5 {R:Rk}{i z B:Nat}(hB:1<=B)(hz:z<=B):∀k,(∀q,q<k->gA (R.now i (18+q))=true->fo (R.now i (18+q))<B)->z<=yq R i z k/\yq R i z k<=B/\∀q,q<k->gA (R.now i (18+q))=true->fo (R.now i (18+q))<yq R i z k
 | 0,_=>by rw [yq];exact ⟨Nat.le_refl _,hz,fun q h=>by omega⟩
 | k+1,h=>by
  obtain ⟨h1,h2,h3⟩:=I5 hB hz k fun q hq=>h q oZ
  have hk:=h k oZ
  rw [yq]
  refine ⟨by omega, ?_,fun q hq hs => ?_⟩
  ·split
   ·have:=hk (by assumption);omega
   ·omega
  ·rcases (show q<k\/q=k by omega) with c | rfl
   ·have:=h3 q c hs;omega
   ·rw [if_pos hs];omega
section
variable {ls:List (Option Lv)}(hI:wm ls)
include hI
theorem UX {R:Rk}{no:Nat}{G:List UInt8}(h:ez R ls.length no G)(eV:1<=no)(hw:1<=ls.length):ez R ls.length (pU R ls 1 ls.length) G/\1<=pU R ls 1 ls.length/\pU R ls 1 ls.length<=no:=by
 have hs:∀i,i<ls.length->∀q,q<256->gA (R.now i (18+q))=true->fo (R.now i (18+q))<no:=fun i hi q hq hl=>by
  obtain ⟨s,h1,h2⟩:=h.sec q hq
  rw [h1 i hi] at hl ⊢
  rcases h2 with ⟨-,b, -⟩ | ⟨b, -⟩
  ·exact b
  ·rw [b] at hl;cases hl
 have key:∀j,j<=ls.length->1<=pU R ls 1 j/\pU R ls 1 j<=no/\∀i,i<j->∀q,q<256->gA (R.now i (18+q))=true->fo (R.now i (18+q))<pU R ls 1 j:=by
  intro j
  induction j with
  | zero=>intro _;rw [pU];exact ⟨Nat.le_refl _,eV,fun i h=>by omega⟩
  | succ j ih =>
   intro hj
   obtain ⟨i1,i2,i3⟩:=ih oZ
   obtain ⟨x,hx,uW⟩:=hI j oZ
   have e:pU R ls 1 (j+1)=yq R x.i (pU R ls 1 j) 256:=by rw [pU,hx]
   rw [e,uW]
   obtain ⟨k1,k2,k3⟩:=I5 eV i2 256 fun q hq hl=>hs j oZ q hq hl
   refine ⟨by omega,k2,fun i hi q hq hl => ?_⟩
   rcases (show i<j\/i=j by omega) with c | rfl
   ·have:=i3 i c q hq hl;omega
   ·exact k3 q hq hl
 obtain ⟨g1,g2,g3⟩:=key _ (Nat.le_refl _)
 refine ⟨⟨h.len,fun k hk => ?_⟩,g1,g2⟩
 obtain ⟨s,h1,h2⟩:=h.sec k hk
 refine ⟨s,h1, ?_⟩
 rcases h2 with ⟨a,b,c⟩ | h2
 ·have:=g3 0 oZ k hk (by rw [h1 0 oZ];exact a)
  rw [h1 0 oZ] at this
  exact .inl ⟨a,this,c⟩
 ·exact .inr h2
end
structure Dsk (tp:Tp)(pr:Bool)(n w q:Nat)(R:Rk)(no:Nat)(u:Ub)(l:List au)(G:List UInt8)(pm:List dv)(cs:List (Int×Ob))(mo:Ob)(ring:Nat->Option Ub):Prop where
 qt:Qt 11 tp n w ring R
 rg:qv 11 u.txg u ring
 ub:zC u=0/\u.Ok
 rt:u.root=mo.root
 VL:wG pm cs mo l
 lv:∀x,(x∈ej mo\/∃k o,aH cs k=some o/\x∈ej o)↔∃e∈pm,e.x=x
 po:dT pr w n R pm
 jE:pm.length<=q
 ud:aS l+10<=q
 lg:ez R w no G
structure qx (tp:Tp)(pr:Bool)(n w q:Nat)(R:Rk)(no:Nat)(u:Ub)(all:List (Int×Ob))(od:List (Int×List Pt))(x:Rm)(lM lD:List au)(GM SD:List UInt8)(pm:List dv)(cs:List (Int×Ob))(mo:Ob)(ring:Nat->Option Ub):Prop where
 dk:Dsk tp pr n w q R no u lD GM pm cs mo ring
 rel:bH pm all lM
 al:QF (bD pr w n) (aN pr w 1024) q u.txg x pm
 oe:∀x,x∈bc od↔∃e∈pm,e.x=x
 ol:∀e∈od,e.2.length<=200
 um:aS lM+10<=q
 ls:ez R.w6 w no SD
section
variable {tp:Tp}{pr:Bool}{n q:Nat}{R:Rk}{no:Nat}{u:Ub}{all:List (Int×Ob)}{od:List (Int×List Pt)}{x:Rm}{lM lD:List au}{GM SD:List UInt8}{pm:List dv}{cs:List (Int×Ob)}{mo:Ob}{ring:Nat->Option Ub}
theorem qx.ab3 {w:Nat}(h:qx tp pr n w q R no u all od x lM lD GM SD pm cs mo ring){EF:List (Int×Ob)}{l':List au}(hr:bH pm EF l')(hu:aS l'+10<=q):qx tp pr n w q R no u EF od x l' lD GM SD pm cs mo ring:={ h with rel:=hr,um:=hu }
theorem qx.nvD {w:Nat}(h:qx tp pr n w q R no u all od x lM lD GM SD pm cs mo ring){l':List au}(e:l'.map au.nv=lD.map au.nv):qx tp pr n w q R no u all od x lM l' GM SD pm cs mo ring:={ h with dk:={ h.dk with VL:=h.dk.VL.nv e,ud:=by rw [EE e];exact h.dk.ud } }
theorem qx.nvM {w:Nat}(h:qx tp pr n w q R no u all od x lM lD GM SD pm cs mo ring){l':List au}(e:l'.map au.nv=lM.map au.nv):qx tp pr n w q R no u all od x l' lD GM SD pm cs mo ring:=h.ab3 (h.rel.nv e) (by rw [EE e];exact h.um)
variable {ls:List (Option Lv)}(hI:wm ls)(hn:324<=n/\n<=2048)(hw:1<=ls.length/\ls.length<=5)(hp:pr=true->3<=ls.length)
include hI hn hw hp
theorem qx.aeS (h:qx tp pr n ls.length q R no u all od x lM lD GM SD pm cs mo ring){a m:Nat}{b:List UInt8}(hb:b.length=m)(ha:a+m<=22528)(eV:1<=no/\no+m<=281474976710656) :
  qx tp pr n ls.length q (bP ls m R no a b).1 (bP ls m R no a b).2 u all od x lM lD (sA GM a b) SD pm cs mo ring/\(bP ls m R no a b).1.on/\no<=(bP ls m R no a b).2/\(bP ls m R no a b).2<=no+m/\(bP ls m R no a b).1.ws.length<=R.ws.length+5*m:=by
 obtain ⟨h1,h2,h3,h4,h5⟩:=IY hI hw m R no GM a b h.dk.qt.on (fun i hi=>by rw [(h.dk.qt.sz i hi).2];exact hn.1) h.dk.lg oZ oZ eV.1 eV.2
 exact ⟨{ h with
  dk:={ h.dk with qt:=h.dk.qt.log hn.1 h1,po:=h.dk.po.congr hn.1 hw hp fun i hi a h1' h2'=>h1.now i a (.inr h1'),lg:=h2 }
  ls:=(h.ls.congr fun i a hi _ _=>by rw [ig,ig,h1.pl]).mono h3 },h1.on,h3,h4,h5⟩
theorem qx.flush (h:qx tp pr n ls.length q R no u all od x lM lD GM SD pm cs mo ring):qx tp pr n ls.length q (R.run (iF ls)) no u all od x lM lD GM GM pm cs mo ring :=
 { h with
  dk:={ h.dk with qt:=h.dk.qt.flush hI hn.1,po:=h.dk.po.congr hn.1 hw hp fun i hi a _ _=>ij hI i a,lg:=h.dk.lg.congr fun i a _ _ _=>ij hI i a }
  ls:=h.dk.lg.congr fun i a hi _ _=>by rw [ig,Hs hI h.dk.qt.on hi] }
omit hI hn hw hp in
theorem qx.w7 (h:qx tp pr n ls.length q R no u all od x lM lD GM SD pm cs mo ring):QB pr n ls ⟨R,x,[]⟩ pm :=
 ⟨h.dk.qt.on,fun i hi=>(h.dk.qt.sz i hi).2,h.dk.po,fun e he=>(h.al.hd e he).1,h.al.nd⟩
theorem qx.Ht (h:qx tp pr n ls.length q R no u all od x lM lD GM SD pm cs mo ring)(ht:u.txg+1<=281474976710656){ks:List Int}{os:List (Int×Ob)}{ds:List (Int×List Pt)}{P2:PS}{QV:Ob}{fs:List Pt}{note:Nat}(Bf:note<18446744073709551616)
  (hc:CmR pr ls n u.txg all od ⟨R,x,[]⟩ ks os ds P2 QV fs) :
  ∃jV,qx tp pr n ls.length q (((P2.R.run (iF ls)).run (oA n ls ⟨11,u.txg+1,note,QV.root⟩)).run (iF ls)) no ⟨11,u.txg+1,note,QV.root⟩ os ds ((bq (u.txg+1) P2.x (aN pr ls.length 1024) fs).sync ((u.txg+1:Nat):Int)) (lM.map (lJ (u.txg+1))) (lM.map (lJ (u.txg+1))) GM GM jV os QV (upd ring ((u.txg+1) % 8) (some ⟨11,u.txg+1,note,QV.root⟩))/\P2.R.on:=by
 obtain ⟨jV,h1,h2,h3,h4,h5,h6,h7,h8,h9,UY,h11⟩:=Ho hI hn hw hp ⟨h.dk.rg.one,ht⟩ hc h.w7 h.rel h.al h.oe h.dk.jE h.um
 have hu:zC (⟨11,u.txg+1,note,QV.root⟩:Ub)=0/\Ub.Ok ⟨11,u.txg+1,note,QV.root⟩:=⟨if_pos ⟨by simp only;omega,ht,h9,h11⟩,⟨by simp only;omega,by simp only;omega,Bf,UY⟩⟩
 obtain ⟨k1,k2,k3⟩:=h.dk.qt.Ht hI hn.1 h6 hu
 refine ⟨jV,⟨⟨k1,h.dk.rg.next rfl rfl,hu,rfl,h1,fun x=>(h8 x).symm.trans (h2 x),h5.congr hn.1 hw hp fun i hi a a1 a2=>k3 i a ⟨by omega,a2⟩,h3,by rw [wK];exact h.um, ?_⟩,h1.rel,h4,h2,h7,by rw [wK];exact h.um, ?_⟩,h6.on⟩
 ·exact h.dk.lg.congr fun i a hi a1 a2=>by rw [k3 i a ⟨a1,by omega⟩,h6.now i a (.inl a2)]
 ·exact h.dk.lg.congr fun i a hi a1 a2=>by rw [ig,k2 i a hi,k3 i a ⟨a1,by omega⟩,h6.now i a (.inl a2)]
omit hI in
theorem qx.ab4 (h:qx tp pr n ls.length q R no u all od x lM lD GM SD pm cs mo ring)(hR:R.Ok):Dsk tp pr n ls.length q R.w6 no u lD SD pm cs mo ring :=
 { h.dk with
  qt:=h.dk.qt.w6 hn.1 hR
  po:=h.dk.po.congr hn.1 hw hp fun i hi a a1 _=>by rw [ig,h.dk.qt.q i hi a (.inr a1)]
  lg:=h.ls }
end
section
variable {tp:Tp}{pr:Bool}{n q:Nat}{R:Rk}{no:Nat}{u:Ub}{l:List au}{G:List UInt8}{pm:List dv}{cs:List (Int×Ob)}{mo:Ob}{ring:Nat->Option Ub}
theorem QW {up:Pt->List Pt}{m:Ob}{SL:List eW}(x:Pt):x∈bc (AD up m SL)↔x∈ej m\/∃k o,aH (xb up 0 SL) k=some o/\x∈ej o:=by
 unfold bc AD
 rw [List.flatMap_cons,List.mem_append,List.mem_flatMap]
 refine or_congr Iff.rfl ⟨?_, ?_⟩
 ·rintro ⟨e,he,hx⟩
  obtain ⟨f,hf,rfl⟩:=List.mem_map.1 he
  exact ⟨f.1,f.2,eU mV hf,hx⟩
 ·rintro ⟨k,o,ho,hx⟩
  exact ⟨_,List.mem_map.2 ⟨_,aI ho,rfl⟩,hx⟩
variable {ls:List (Option Lv)}(hI:wm ls)(hn:324<=n/\n<=2048)(hw:1<=ls.length/\ls.length<=5)(hp:pr=true->3<=ls.length)
include hI hn hw hp
theorem Dsk.opens (h:Dsk tp pr n ls.length q R no u l G pm cs mo ring)(eV:1<=no/\no+22528<=281474976710656)(Fo:Nat)(h1:Fo=pU R ls 1 ls.length) :
  (1<=Fo/\Fo<=no)/\Opn pr n R ls pm cs mo/\(bP ls 22528 R Fo 0 (aX R ls)).1.on/\(∀i,(bP ls 22528 R Fo 0 (aX R ls)).1.size i=R.size i/\((bP ls 22528 R Fo 0 (aX R ls)).1.live i↔R.live i))/\(bP ls 22528 R Fo 0 (aX R ls)).1.ws.length<=R.ws.length+5*22528/\Fo<=(bP ls 22528 R Fo 0 (aX R ls)).2/\(bP ls 22528 R Fo 0 (aX R ls)).2<=Fo+22528 /\
  ∀ks:List Nat,ks.Nodup->(∀k,k∈ks↔∃x∈bc (AD (ff pm) (fX (ff pm) mo.root) (slotsOf cs)),aM (aN pr ls.length 1024) x=k) ->
   qx tp pr n ls.length q (Qn n ls Fo u R) (bP ls 22528 R Fo 0 (aX R ls)).2 u (xb (ff pm) 0 (slotsOf cs)) (AD (ff pm) (fX (ff pm) mo.root) (slotsOf cs)) ⟨ks,[]⟩ l l G G pm (xb (ff pm) 0 (slotsOf cs)) (fX (ff pm) mo.root) ring:=by
 obtain ⟨a1,a2,a3⟩:=UX hI h.lg eV.1 hw.1
 rw [<-h1] at a1 a2 a3
 obtain ⟨b1,b2,b3,b4,b5,b6,b7,b8,b9⟩:=Lr hI hw hn.1 h.qt h.rg h.ub a1 ⟨a2,by omega⟩
 have uw:=h.VL.back h.po
 have I1:(fX (ff pm) mo.root).root=mo.root:=(eJ _ _).2.1
 have vV:∀x,x∈bc (AD (ff pm) (fX (ff pm) mo.root) (slotsOf cs))↔∃e∈pm,e.x=x:=fun x=>(h.VL.live h.po x).trans (h.lv x)
 refine ⟨⟨a2,a3⟩,h.VL.opn hI hn.1 hw hp (fun i hi=>(h.qt.sz i hi).2) h.po,b8,b9,b7,b5,b6,fun ks hk hm=>⟨⟨b1,h.rg,h.ub,h.rt.trans I1.symm,uw,fun x=>(QW x).symm.trans (vV x),h.po.congr hn.1 hw hp fun i hi a c1 c2=>b4 i a ⟨c1,c2⟩,h.jE,h.ud,b2⟩,uw.rel, ?_,vV, ?_,h.ud, ?_⟩⟩
 ·have hke:∀k∈ks,∃e∈pm,aM (aN pr ls.length 1024) e.x=k:=fun k hk=>by
   obtain ⟨x,hx,rfl⟩:=(hm k).1 hk
   obtain ⟨e,he,rfl⟩:=(vV x).1 hx
   exact ⟨e,he,rfl⟩
  refine ⟨⟨fun k hk => ?_,List.nodup_nil,fun k hk=>by cases hk⟩,hk,fun e he=>⟨(hm _).2 ⟨e.x,(vV _).2 ⟨e,he,rfl⟩,rfl⟩,fun h=>by cases h⟩,fun k hk=>.inr (hke k hk),fun g hg=>(by cases hg),List.nodup_nil⟩
  obtain ⟨e,he,rfl⟩:=hke k hk
  have:=(h.po.Hh e he).fit
  exact_mod_cast this
 ·intro e he
  unfold AD at he
  rcases List.mem_cons.1 he with rfl | he
  ·have h1:(ej (fX (ff pm) mo.root)).length<=10:=qp uw.mi uw.mc
   simp only;omega
  ·obtain ⟨f,hf,rfl⟩:=List.mem_map.1 he
   obtain ⟨d, -,c1,c2,c3⟩:=uw.has (eU mV hf)
   have h1:=qp c1 c3
   have h2:=Hn c2.sz
   have h3:=lx c2.sz
   have h4:=WQ f.2.size
   rw [h4] at h2
   simp only;omega
 ·exact b2.congr fun i a hi _ _=>by rw [ig,b3 i a hi]
end
theorem AK {R:Rk}{l:List Ev}{i a:Nat}{b:eF}(bW:R.on)(ha:a<R.size i)(h:∀b',Ev.w i a b'∈l->b'=b)(hb:R.now i a=b):(R.run l).now i a=b:=by
 by_cases c:Ev.w i a b∈l
 ·exact gZ bW ha h c
 ·rw [bJ fun b' Ji=>c (by rw [h b' Ji] at Ji;exact Ji)];exact hb
structure FmD (n i:Nat)(s:eF)(R:Rk):Prop where
 lb:R.now i 0=s
 z:∀a,a<n->(∀k,k<4->a≠fA n k)->R.now i a=fI
 pl:∀a,R.pl i a=R.now i a
theorem UZ {n i:Nat}{s:eF}{R:Rk}(hn:324<=n)(bW:R.on)(bx:R.size i=n)(hz:∀a,a<n->R.now i a=fI):FmD n i s (R.run (upto (gB n i s) 7)):=by
 have e:upto (gB n i s) 7=(fS i 0 (List.replicate 274 fI)++fS i (n - 18) (List.replicate 18 fI))++(fS i 0 [s]++(fS i 9 [s]++(fS i (n - 18) [s]++fS i (n - 9) [s])))++[Ev.f i]:=by
  simp [upto,gB,fA]
 have m0:∀ {b a},Ev.w i a b∈fS i 0 (List.replicate 274 fI)++fS i (n - 18) (List.replicate 18 fI)->b=fI:=fun {b a} h=>by
  rcases List.mem_append.1 h with h | h <;> obtain ⟨-,j,hj, -⟩:=eM.1 h <;> exact (List.mem_replicate.1 (List.mem_of_getElem? hj)).2
 have m1:∀ {b a p},Ev.w i a b∈fS i p [s]->b=s/\a=p:=fun {b a p} h=>by
  obtain ⟨-,j,hj,e⟩:=eM.1 h
  rcases j with _ | j
  ·simp at hj;exact ⟨hj.symm,by omega⟩
  ·simp at hj
 have hp:∀a,(R.run (upto (gB n i s) 7)).pl i a=(R.run (upto (gB n i s) 7)).now i a:=fun a=>by
  rw [e,Rk.jn]
  show ((R.run _).ev (.f i)).pl i a=((R.run _).ev (.f i)).now i a
  rw [IW (bW.run _),kR]
 refine ⟨?_,fun a ha hk => ?_,hp⟩
 ·rw [e,List.append_assoc,Rk.jn]
  refine gZ (bW.run _) (by rw [Rk.dj,bx];omega) (fun b' hb => ?_) ?_
  ·simp only [List.mem_append] at hb
   rcases hb with (h | h | h | h) | h
   ·exact (m1 h).1
   ·exact (m1 h).1
   ·exact (m1 h).1
   ·exact (m1 h).1
   ·simp at h
  ·simp only [List.mem_append]
   exact .inl (.inl (eM.2 ⟨rfl,0,rfl,rfl⟩))
 ·refine AK bW oZ (fun b' hb => ?_) (hz a ha)
  rw [e] at hb
  simp only [List.mem_append] at hb
  have k0:=hk 0 oZ;have k1:=hk 1 oZ;have k2:=hk 2 oZ;have k3:=hk 3 oZ
  simp only [fA] at k0 k1 k2 k3
  rcases hb with (h | h | h | h | h) | h
  ·exact m0 (List.mem_append.2 h)
  ·exact absurd (m1 h).2 k0
  ·exact absurd (m1 h).2 k1
  ·exact absurd (m1 h).2 k2
  ·exact absurd (m1 h).2 k3
  ·simp at h
theorem Lt:fQ fI gR=false:=uS fun h=>by
 have:=h.2.1
 revert this;decide
theorem U0:gA fI=false:=by
 unfold gA
 rw [show fo fI=0 by decide]
 simp
theorem Hu (n w:Nat):(qJ n w).on:=by
 induction w with
 | zero=>exact ⟨rfl,rfl⟩
 | succ w ih=>exact ih
theorem QX (n:Nat):∀w,(qJ n w).ds=List.replicate w ⟨List.replicate n fI,List.replicate n fI,false⟩
 | 0=>rfl
 | w+1=>by
  show (qJ n w).ds++[_]=_
  rw [QX n w,List.replicate_succ']
theorem rS {n w i:Nat}(hi:i<w):(qJ n w).live i/\(qJ n w).size i=n/\∀a,a<n->(qJ n w).now i a=fI:=by
 unfold Rk.live Rk.size Rk.now
 rw [QX,List.getElem?_replicate,if_pos hi]
 refine ⟨rfl,by simp,fun a ha => ?_⟩
 simp [ha]
theorem ab5 {n k i a:Nat}{s b:eF}{m:Nat}(h:Ev.w i a b∈upto (gB n k s) m):i=k:=by
 obtain ⟨q, -,hq⟩:=ei.1 h
 unfold gB at hq
 split at hq
 all_goals first
  | exact (eM.1 hq).1
  | simp at hq
theorem ab6 {n k d:Nat}{s:eF}:Ev.f d∉upto (gB n k s) 6:=fun h=>by
 obtain ⟨q,hq6,hq⟩:=ei.1 h
 obtain rfl | rfl | rfl | rfl | rfl | rfl:q=0\/q=1\/q=2\/q=3\/q=4\/q=5:=by omega
 all_goals exact mM hq
theorem yK {n k i:Nat}{s:eF}{R:Rk}(hi:i≠k):(∀a,(R.run (upto (gB n k s) 7)).now i a=R.now i a)/\((∀a,R.pl i a=R.now i a)->∀a,(R.run (upto (gB n k s) 7)).pl i a=R.now i a):=by
 have h1:∀m a,(R.run (upto (gB n k s) m)).now i a=R.now i a:=fun m a=>bJ fun b hb=>hi (ab5 hb)
 refine ⟨h1 7,fun hp a => ?_⟩
 rw [dO,show gB n k s 6=[.f k] from rfl]
 show ((R.run _).ev (.f k)).pl i a=_
 rw [Eg (by rw [G4 fun d=>ab6,hp,h1]),h1]
theorem I6 {n w:Nat}{lb:Nat->eR}(hn:324<=n):∀k,k<=w->(∀i,i<k->FmD n i (whole (dJ (lb i))) ((qJ n w).run (upto (qI n lb) k)))/\∀i,k<=i->i<w->∀a,a<n->((qJ n w).run (upto (qI n lb) k)).now i a=fI
 | 0,_=>⟨fun i h=>by omega,fun i _ hi a ha=>(rS hi).2.2 a ha⟩
 | k+1,hk=>by
  obtain ⟨h2,h3⟩:=I6 (w:=w) (lb:=lb) hn k oZ
  have h1:((qJ n w).run (upto (qI n lb) k)).on:=(Hu n w).run _
  have h4:((qJ n w).run (upto (qI n lb) k)).size k=n:=by rw [Rk.dj];exact (rS oZ).2.1
  rw [dO]
  generalize (qJ n w).run (upto (qI n lb) k)=R at *
  refine ⟨fun i hi => ?_,fun i hi hiw a ha => ?_⟩
  ·by_cases c:i=k
   ·subst c
    exact UZ hn h1 h4 (h3 i (Nat.le_refl _) oZ)
   ·obtain ⟨o1,o2⟩:=yK (n:=n) (k:=k) (s:=whole (dJ (lb k))) (R:=R) c
    have hd:=h2 i oZ
    exact ⟨by rw [<-hd.lb];exact o1 0,fun a ha hk=>by rw [<-hd.z a ha hk];exact o1 a,fun a=>(o2 hd.pl a).trans (o1 a).symm⟩
  ·rw [<-h3 i oZ hiw a ha]
   exact (yK oZ).1 a
theorem EG {n w pool:Nat}{tp:Tp}(hn:324<=n):Qt pool tp n w (fun _=>none) ((qJ n w).run (upto (qI n fun k=>⟨pool,[tp],0,k⟩) w))/\ez ((qJ n w).run (upto (qI n fun k=>⟨pool,[tp],0,k⟩) w)) w 1 (List.replicate 22528 0)/\∀i a,i<w->((qJ n w).run (upto (qI n fun k=>⟨pool,[tp],0,k⟩) w)).pl i a=((qJ n w).run (upto (qI n fun k=>⟨pool,[tp],0,k⟩) w)).now i a:=by
 have h1:((qJ n w).run (upto (qI n fun k=>⟨pool,[tp],0,k⟩) w)).on:=(Hu n w).run _
 obtain ⟨h2, -⟩:=I6 (w:=w) (lb:=fun k=>(⟨pool,[tp],0,k⟩:eR)) hn w (Nat.le_refl _)
 have h4:∀i,i<w->((qJ n w).run (upto (qI n fun k=>⟨pool,[tp],0,k⟩) w)).live i/\((qJ n w).run (upto (qI n fun k=>⟨pool,[tp],0,k⟩) w)).size i=n:=fun i hi=>⟨(Rk.eh ..).2 (rS hi).1,by rw [Rk.dj];exact (rS hi).2.1⟩
 generalize (qJ n w).run (upto (qI n fun k=>(⟨pool,[tp],0,k⟩:eR)) w)=R at *
 refine ⟨⟨h1,h4,fun k hk=>(h2 k hk).lb,fun i hi k j hk hj => ?_,fun i hi a _=>(h2 i hi).pl a⟩,⟨List.length_replicate ..,fun k hk=>⟨fI,fun i hi=>(h2 i hi).z _ oZ fun q hq => ?_,.inr ⟨U0, ?_⟩⟩⟩,fun i a hi=>(h2 i hi).pl a⟩
 ·show fQ _ gR=false
  rw [(h2 i hi).z _ (rR hk hj hn).1 fun q hq => ?_]
  ·exact Lt
  ·obtain rfl | rfl | rfl | rfl:k=0\/k=1\/k=2\/k=3:=by omega
   all_goals
    obtain rfl | rfl | rfl | rfl:q=0\/q=1\/q=2\/q=3:=by omega
    all_goals
     simp only [fA]
     omega
 ·obtain rfl | rfl | rfl | rfl:q=0\/q=1\/q=2\/q=3:=by omega
  all_goals
   simp only [fA]
   omega
 ·unfold gS
  rw [List.drop_replicate,List.take_replicate]
  congr 1
  omega
section
variable {pm:List dv}{all:List (Int×Ob)}{l:List au}
theorem bH.U3 (h:bH pm all l){k:Int}{z room:Nat}{o:Ob}{d:au}(hk:(d.no:Int)=k)(hd:1<=k/\k<=112)(hn:((ec all k o).map (·.1)).Nodup)(hi:de pm (cY o.size 1024) o)(hr:dV pm o d)(hz:o.size=z)(hf:cy l k z room=true) :
  bH pm (ec all k o) (dF d false l)/\aS (dF d false l)<=room:=by
 subst hk
 exact ⟨h.put hn oZ hi hr,Lq hf rfl (hr.size.symm.trans hz)⟩
theorem bH.Z7 (h:bH pm all l)(k:Nat):de pm (cY (Ob.at all k).size 1024) (Ob.at all k)/\dV pm (Ob.at all k) (kP l k)/\(kP l k).no=k/\(Ob.at all k).size=(kP l k).b.length:=by
 unfold Ob.at kP
 rcases h.keys k with ⟨h1,h2⟩ | ⟨o,d,h1,h2,h3,h4⟩
 ·rw [h1,h2]
  exact ⟨QP pm,Lp pm k,rfl,rfl⟩
 ·rw [h1,h2]
  have:=(fg h2).2
  exact ⟨h3,h4,by simp only [Option.getD_some];omega,h4.size⟩
theorem bH.Z8 (h:bH pm all l){k:Int}{o:Ob}(hk:aH all k=some o):∃d,ey l k=some d/\(d.no:Int)=k/\de pm (cY o.size 1024) o/\dV pm o d:=by
 rcases h.keys k with ⟨h1, -⟩ | ⟨o',d,h1,h2,h3,h4⟩
 ·rw [hk] at h1;cases h1
 ·rw [hk] at h1;cases h1
  exact ⟨d,h2,(fg h2).2,h3,h4⟩
theorem bH.isN (h:bH pm all l){k:Int}(hk:aH all k=none):ey l k=none:=by
 rcases h.keys k with ⟨-,h2⟩ | ⟨o',d,h1, -⟩
 ·exact h2
 ·rw [hk] at h1;cases h1
theorem bH.each (h:bH pm all l):∀e∈all,1<=e.1/\e.1<=112/\de pm (cY e.2.size 1024) e.2/\e.2.size<=65536/\e.2.used=true:=fun e he=>by
 obtain ⟨d,h1,h2,h3,h4⟩:=h.Z8 (eU h.kn he)
 have h5:=h.no d (fg h1).1
 exact ⟨by omega,by omega,h3,h4.sz,h4.us⟩
theorem bH.jE (h:bH pm all l):all.length<=112:=by rw [h.len];exact h.dl.jE
theorem Lu (h:bH pm all l):mS all (all.map (·.1))<=aS l:=by
 rw [<-h.used]
 have:∀L:List (Int×Ob),(∀e∈L,En all e.1<=cost e.2.size)->((L.map (·.1)).map (En all)).sum<=eH L:=by
  intro L
  induction L with
  | nil=>intro _;exact Nat.zero_le _
  | cons e r ih =>
   intro h
   have a1:=h e (List.mem_cons_self ..)
   have a2:=ih fun x hx=>h x (List.mem_cons_of_mem _ hx)
   simp only [eH,List.map_cons,List.sum_cons] at *
   omega
 refine this all fun e he => ?_
 obtain ⟨-, -,h3,h4, -⟩:=h.each e he
 unfold En
 rw [eU h.kn he]
 exact ZY h3 h4
theorem bH.write (h:bH pm all l){k:Nat}(hk:1<=k/\k<=112){a m room:Nat}{b:List UInt8}(hb:b.length=m)(KG:a+m<=65536){cd:List (Int×List UInt8)}(hn:(cd.map (·.1)).Nodup)
  (hf:∀q,aH cd q=if cQ a m q then some (jG ((Ob.at all k).byte (jW pm)) a b (max (Ob.at all k).size (a+m)) q.toNat) else aH (Ob.at all k).fresh q) (v:Value)
  (RP:((ec all k { Ob.at all k with size:=max (Ob.at all k).size (a+m),fresh:=cd,clean:=false }).map (·.1)).Nodup) (bE:cy l k (max (kP l k).b.length (a+m)) room=true) :
  bH pm (ec all k { Ob.at all k with size:=max (Ob.at all k).size (a+m),fresh:=cd,clean:=false }) (dF { kP l k with b:=K0 (kP l k).b (max (kP l k).b.length (a+m)) a b,gC:=p7 (kP l k) a m,v:=v } false l) /\
   aS (dF { kP l k with b:=K0 (kP l k).b (max (kP l k).b.length (a+m)) a b,gC:=p7 (kP l k) a m,v:=v } false l)<=room:=by
 obtain ⟨h1,h2,h3,h4⟩:=h.Z7 k
 exact h.U3 (by simp only [h3]) oZ RP (h1.write h2.sz KG hn hf) (h2.write hb KG hn hf v) (by simp only [h4]) bE
theorem bH.ab7 (h:bH pm all l){k:Int}(hk:1<=k/\k<=112){o:Ob}{d:au}(ho:aH all k=some o)(hd:ey l k=some d){z room:Nat}(hz:z<=65536){cd:List (Int×List UInt8)}(hn:(cd.map (·.1)).Nodup)
  (hf:∀q,aH cd q=if z<o.size then jy (jW pm) o z q else aH o.fresh q) (v:Value)
  (RP:((ec all k { o with size:=z,ay:=if z<o.size then o.ay.take (aW z) else o.ay,fresh:=cd,clean:=false }).map (·.1)).Nodup) (bE:cy l k z room=true) :
  bH pm (ec all k { o with size:=z,ay:=if z<o.size then o.ay.take (aW z) else o.ay,fresh:=cd,clean:=false }) (dF { Wx d z with b:=dH z d.b,v:=v } false l) /\
   aS (dF { Wx d z with b:=dH z d.b,v:=v } false l)<=room:=by
 obtain ⟨d',h1,h2,h3,h4⟩:=h.Z8 ho
 rw [hd] at h1;cases h1
 unfold Wx
 have hs:=h4.size
 by_cases c:z<o.size
 ·simp only [if_pos c] at hf RP ⊢
  rw [if_pos oZ]
  exact h.U3 h2 hk RP (h3.cut c h4.sz hn hf) (h4.cut c hn hf v) rfl bE
 ·simp only [if_neg c] at hf RP ⊢
  rw [if_neg oZ]
  exact h.U3 h2 hk RP (h3.grow oZ hz hn hf) (h4.grow oZ hz hn hf v) rfl bE
theorem bH.fork (h:bH pm all l){k:Int}{z:Nat}(hz:1<=z/\z<=112){o:Ob}{d:au}(ho:aH all k=some o)(hd:ey l k=some d){room:Nat}{cd:List (Int×List UInt8)}(hn:(cd.map (·.1)).Nodup)(hf:∀q,aH cd q=aH o.fresh q)(v:Value)
  (RP:((ec all z { o with fresh:=cd }).map (·.1)).Nodup) (bE:cy l z d.b.length room=true) :
  bH pm (ec all z { o with fresh:=cd }) (dF { d with no:=z,v:=v } false l)/\aS (dF { d with no:=z,v:=v } false l)<=room:=by
 obtain ⟨d',h1,h2,h3,h4⟩:=h.Z8 ho
 rw [hd] at h1;cases h1
 exact h.U3 rfl oZ RP (h3.same hn hf) (h4.same hn hf z v) h4.size bE
end
theorem qx.new {tp:Tp}{pr:Bool}{n q:Nat}{ls:List (Option Lv)}(hI:wm ls)(hn:324<=n/\n<=2048)(hq:10<=q):∀R0,R0=(qJ n ls.length).run (upto (qI n fun k=>⟨11,[tp],0,k⟩) ls.length) ->
  R0.on/\(∀i,i<ls.length->R0.live i/\R0.size i=n)/\(∀i,i<ls.length->iL R0 n i fun _ _=>none)/\∃ring,qx tp pr n ls.length q ((R0.run (oA n ls ⟨11,1,0,ah⟩)).run (iF ls)) 1 ⟨11,1,0,ah⟩ [] [] ⟨[],[]⟩ [] [] (List.replicate 22528 0) (List.replicate 22528 0) [] [] UU ring:=by
 rintro R0 hR
 obtain ⟨h1,h2,h3⟩:=EG (w:=ls.length) (pool:=11) (tp:=tp) hn.1
 rw [<-hR] at h1 h2 h3
 have hu:zC (⟨11,1,0,ah⟩:Ub)=0/\Ub.Ok ⟨11,1,0,ah⟩:=⟨by decide,⟨by decide,by decide,by decide,by refine ⟨?_, ?_, ?_, ?_, ?_, ?_, ?_, ?_, ?_⟩ <;> decide⟩⟩
 obtain ⟨k1,k2,k3⟩:=h1.mark hI hn.1 h1.on (fun _=>rfl) (fun _=>Iff.rfl) (fun _ _ _=>rfl) hu
 have hlg:ez ((R0.run (oA n ls ⟨11,1,0,ah⟩)).run (iF ls)) ls.length 1 (List.replicate 22528 0):=h2.congr fun i a hi a1 a2=>k3 i a ⟨a1,by omega⟩
 refine ⟨h1.on,h1.sz,h1.rg,_,⟨⟨k1,qv.first rfl rfl,hu,rfl,I4 ED,fun x => ?_,⟨fun e he=>(by cases he),List.Pairwise.nil⟩,Nat.zero_le _,by simpa [aS] using hq,hlg⟩,(I4 ED).rel,⟨⟨fun k hk=>(by cases hk),List.nodup_nil,fun k hk=>(by cases hk)⟩,List.nodup_nil,fun e he=>(by cases he),fun k hk=>(by cases hk),fun g hg=>(by cases hg),List.nodup_nil⟩,fun x => ?_,fun e he=>(by cases he),by simpa [aS] using hq, ?_⟩⟩
 ·constructor
  ·rintro (h | ⟨k,o,h, -⟩)
   ·exact absurd (fZ.1 h).1 (by simp [UU])
   ·cases h
  ·rintro ⟨e,he, -⟩;cases he
 ·constructor
  ·intro h;cases h
  ·rintro ⟨e,he, -⟩;cases he
 ·exact hlg.congr fun i a hi a1 a2=>by rw [ig,k2 i a hi]
theorem bQ {l m:Chunk}(h:∀c:Chunk->Nat,(∀a b,c (a++b)=c a+c b)->c []=0->c l=c m:=by intro c h1 h0;simp only [List.flatten_cons,List.flatten_nil,h1,h0,Go.Proofs.YtcfioaeamfappaaGreatDoor.Rg.ch] <;> omega):l.Perm m:=by
 classical
 exact List.perm_iff_count.2 fun x=>h (fun l=>List.count x l) (fun a b=>List.count_append) rfl
end Go.Sl
namespace Go.Proofs.YtcfioaeamfappaaGreatDoor
open Go.Sl
set_option maxRecDepth 10000
theorem Ct.to {g:FuncId}{args:List Value}{As:List Chunk}{P P':Value->List Chunk->Prop}(h:Ct g args As P)(k:∀u Bs,P u Bs->P' u Bs):Ct g args As P':=fun w H=>(h w H).mono fun u _ ⟨Bs,hp,ht⟩=>⟨Bs,k u Bs hp,ht⟩
theorem Ct.cZ {g:FuncId}{args:List Value}{As Ls:List Chunk}{v:Value}{P':Value->List Chunk->Prop}(Rs:Chunk)(h:Ct g args As fun u Bs=>u=v/\Bs=As)(s:Ls.flatten.Perm (As.flatten++Rs))(k:P' v Ls):Ct g args Ls P':=h.on (Rs:=Rs) s fun u Bs ⟨e,e2⟩=>⟨Ls,[],e ▸ k,by rw [e2,show Ls.flatten++([]:Chunk)=Ls.flatten from List.append_nil _];exact s.symm⟩
theorem ab8 {L:List (Int×Value)}{all:List (Int×Ob)}{V:Chunk}(h:eT w9 L all V){k:Int}{o:Ob}(hk:aH all k=some o):(o.fresh.map (·.1)).Nodup:=by
 rcases h.look k with ⟨-,h2, -⟩ | ⟨v,x,V1,D,V2, -,h2, -,⟨a, -,je,cP,DP,dP,cI,DI,r,LF,CF,VF, -, -,h3,h4, -⟩, -⟩
 ·rw [hk] at h2;cases h2
 ·rw [hk] at h2;cases h2
  rw [h4.keys];exact h3.nodup
def AL (T:TypeId)(fr:Nat×Nat)(p:Nat)(qs:List Nat)(tp:Tp)(pr:Bool)(n:Nat)(ls:List (Option Lv))(s:Nat)(R:Rk)(no txg note:Nat)(all:List (Int×Ob))(od:List (Int×List Pt))(x:Rm)(S:Chunk):Prop :=
 ∃t al ra rd C V LA CA VA Ld CD VD Al,jd t 11 tp pr n ls no V/\br p qs R C/\Mp ra .i64 LA CA/\eT w9 LA all VA/\Mp rd .i64 Ld CD/\eT Pa Ld od VD/\oN al ((bD pr ls.length n:Nat):Int) ((aN pr ls.length 1024:Nat):Int) x Al /\
  S=[(s,bS t (ptr al) ra rd txg note)]++(gK T fr++(C++(V++(CA++(VA++(CD++(VD++Al)))))))
structure StF (qs:List Nat)(tp:Tp)(pr:Bool)(n q:Nat)(ls:List (Option Lv))(R:Rk)(pm:List dv)(all:List (Int×Ob))(l:List au):Prop where
 ok:dE tp pr n ls.length
 n2:n<=2048
 ho:dI qs R n ls
 hall:∀x∈ls,x≠none
 on:R.on
 rel:bH pm all l
 Ql:∀(o:Ob) (N:Nat),de pm N o->∀x∈o.ay,x≠ah->KC R ls pr n x (jW pm x)
 q:bD pr ls.length n / aN pr ls.length 1024 / 4=q
section
variable {T:TypeId}{fr:Nat×Nat}{p:Nat}{qs:List Nat}{tp:Tp}{pr:Bool}{n q:Nat}{ls:List (Option Lv)}{s:Nat}{R:Rk}{no txg note:Nat}{all:List (Int×Ob)}{od:List (Int×List Pt)}{rm:Rm}{S:Chunk}{pm:List dv}{l:List au}
theorem AL.kn (h:AL T fr p qs tp pr n ls s R no txg note all od rm S):(all.map (·.1)).Nodup:=by
 obtain ⟨t,al,ra,rd,C,V,LA,CA,VA,Ld,CD,VD,Al, -, -,h1,h2, -⟩:=h
 rw [h2.keys];exact h1.nodup
theorem AL.fn (h:AL T fr p qs tp pr n ls s R no txg note all od rm S){k:Int}{o:Ob}(hk:aH all k=some o):(o.fresh.map (·.1)).Nodup:=by
 obtain ⟨t,al,ra,rd,C,V,LA,CA,VA,Ld,CD,VD,Al, -, -,h1,h2, -⟩:=h
 exact ab8 h2 hk
variable (h:AL T fr p qs tp pr n ls s R no txg note all od rm S)(f:StF qs tp pr n q ls R pm all l)
include h
theorem AM (k a:Int)(ad:Option Addr)(m c:Nat)(O:Chunk)(hb:¬(1<=k/\k<=112)\/a<0\/65536<a\/65536 - a<m):Ct 46 [ptr s,.int .i64 k,.int .i64 a,.slice ad m c] [S,O] fun u Bs=>u = .int .i64 1/\∃S',S'=S/\Bs=[S',O]:=by
 obtain ⟨t,al,ra,rd,C,V,LA,CA,VA,Ld,CD,VD,Al,hV,hC,hA,hG,hD,hP,hL,rfl⟩:=h
 exact (GQ s t (ptr al) ra rd txg note k a ad m c hb).cZ (gK T fr++(C++(V++(CA++(VA++(CD++(VD++(Al++O)))))))) bQ ⟨rfl,_,rfl,rfl⟩
theorem AN (k z:Int)(hb:z<0\/65536<z):Ct 48 [ptr s,.int .i64 k,.int .i64 z] [S] fun u Bs=>u = .int .i64 1/\∃S',S'=S/\Bs=[S']:=by
 obtain ⟨t,al,ra,rd,C,V,LA,CA,VA,Ld,CD,VD,Al,hV,hC,hA,hG,hD,hP,hL,rfl⟩:=h
 exact (GR t s (ptr al) ra rd txg note k z hb).cZ (gK T fr++(C++(V++(CA++(VA++(CD++(VD++Al))))))) bQ ⟨rfl,_,rfl,rfl⟩
theorem sF (k:Int)(z:Nat)(hz:z<=65536)(hb:(dr all k).2≠0):Ct 48 [ptr s,.int .i64 k,.int .i64 z] [S] fun u Bs=>u = .int .i64 (dr all k).2/\∃S',S'=S/\Bs=[S']:=by
 obtain ⟨t,al,ra,rd,C,V,LA,CA,VA,Ld,CD,VD,Al,hV,hC,hA,hG,hD,hP,hL,rfl⟩:=h
 exact (KL t s (ptr al) ra rd txg note LA CA hA all VA hG k z hz hb).cZ (gK T fr++(C++(V++(CD++(VD++Al))))) bQ ⟨rfl,_,rfl,rfl⟩
theorem EH (k z:Int)(hb:¬(1<=z/\z<=112)):Ct 50 [ptr s,.int .i64 k,.int .i64 z] [S] fun u Bs=>u = .int .i64 1/\∃S',S'=S/\Bs=[S']:=by
 obtain ⟨t,al,ra,rd,C,V,LA,CA,VA,Ld,CD,VD,Al,hV,hC,hA,hG,hD,hP,hL,rfl⟩:=h
 exact (KN t s (ptr al) ra rd txg note k z hb).cZ (gK T fr++(C++(V++(CA++(VA++(CD++(VD++Al))))))) bQ ⟨rfl,_,rfl,rfl⟩
theorem wM (k z:Int)(hz:1<=z/\z<=112)(hb:(dr all k).2≠0):Ct 50 [ptr s,.int .i64 k,.int .i64 z] [S] fun u Bs=>u = .int .i64 (dr all k).2/\∃S',S'=S/\Bs=[S']:=by
 obtain ⟨t,al,ra,rd,C,V,LA,CA,VA,Ld,CD,VD,Al,hV,hC,hA,hG,hD,hP,hL,rfl⟩:=h
 exact (PA t s (ptr al) ra rd txg note LA CA hA all VA hG k z hz hb).cZ (gK T fr++(C++(V++(CD++(VD++Al))))) bQ ⟨rfl,_,rfl,rfl⟩
theorem AO (k:Int)(hk:1<=k/\k<=112){o:Ob}(hl:aH all k=some o):Ct 50 [ptr s,.int .i64 k,.int .i64 k] [S] fun u Bs=>u = .int .i64 0/\∃S',S'=S/\Bs=[S']:=by
 obtain ⟨t,al,ra,rd,C,V,LA,CA,VA,Ld,CD,VD,Al,hV,hC,hA,hG,hD,hP,hL,rfl⟩:=h
 exact (GS t s (ptr al) ra rd txg note LA CA hA all VA hG k hk o hl).cZ (gK T fr++(C++(V++(CD++(VD++Al))))) bQ ⟨rfl,_,rfl,rfl⟩
theorem U4 (k:Int):Ct 52 [ptr s,.int .i64 k] [S] fun u Bs=>u = .int .i64 (dr all k).2/\∃S',AL T fr p qs tp pr n ls s R no txg note (if (dr all k).2=0 then oB all k else all) od rm S'/\Bs=[S']:=by
 obtain ⟨t,al,ra,rd,C,V,LA,CA,VA,Ld,CD,VD,Al,hV,hC,hA,hG,hD,hP,hL,rfl⟩:=h
 refine (TZ s t (ptr al) ra rd txg note LA CA hA all VA hG k).on (Rs:=gK T fr++(C++(V++(CD++(VD++Al))))) bQ ?_
 rintro u Bs ⟨rfl,L',C',V',h1,h2,rfl⟩
 exact ⟨_,[],⟨rfl,_,⟨t,al,ra,rd,C,V,L',C',V',Ld,CD,VD,Al,hV,hC,h1,h2,hD,hP,hL,rfl⟩,rfl⟩,bQ⟩
theorem U5 (k:Int):Ct 29 [ptr s,.int .i64 k] [S] fun u Bs=>u = .tuple #[.int .i64 (dr all k).1,.int .i64 (dr all k).2]/\Bs=[S]:=by
 obtain ⟨t,al,ra,rd,C,V,LA,CA,VA,Ld,CD,VD,Al,hV,hC,hA,hG,hD,hP,hL,rfl⟩:=h
 exact (IJ s t (ptr al) ra rd txg note LA CA hA all VA hG k).cZ (gK T fr++(C++(V++(CD++(VD++Al))))) bQ ⟨rfl,rfl⟩
theorem EI (k a m:Int)(hb:a<0\/m<0):Ct 30 [ptr s,.int .i64 k,.int .i64 a,.int .i64 m] [S] fun u Bs=>u = .tuple #[.slice none 0 0,.int .i64 1]/\Bs=[S]:=by
 obtain ⟨t,al,ra,rd,C,V,LA,CA,VA,Ld,CD,VD,Al,hV,hC,hA,hG,hD,hP,hL,rfl⟩:=h
 exact (KF t s (ptr al) ra rd txg note k a m hb).cZ (gK T fr++(C++(V++(CA++(VA++(CD++(VD++Al))))))) bQ ⟨rfl,rfl⟩
theorem wO (k:Int)(a m:Nat)(hb:(dr all k).2≠0):Ct 30 [ptr s,.int .i64 k,.int .i64 a,.int .i64 m] [S] fun u Bs=>u = .tuple #[.slice none 0 0,.int .i64 (dr all k).2]/\Bs=[S]:=by
 obtain ⟨t,al,ra,rd,C,V,LA,CA,VA,Ld,CD,VD,Al,hV,hC,hA,hG,hD,hP,hL,rfl⟩:=h
 exact (Pq t s (ptr al) ra rd txg note LA CA hA all VA hG k a m hb).cZ (gK T fr++(C++(V++(CD++(VD++Al))))) bQ ⟨rfl,rfl⟩
theorem EJ (k:Int)(g:Nat)(hb:(dr all k).2≠0):Ct 62 [ptr s,.int .i64 k,.int .u64 g] [S] fun u Bs=>u = .tuple #[.slice none 0 0,.int .i64 (dr all k).2]/\Bs=[S]:=by
 obtain ⟨t,al,ra,rd,C,V,LA,CA,VA,Ld,CD,VD,Al,hV,hC,hA,hG,hD,hP,hL,rfl⟩:=h
 exact (KJ s t (ptr al) ra rd txg note LA CA hA all VA hG k g hb).cZ (gK T fr++(C++(V++(CD++(VD++Al))))) bQ ⟨rfl,rfl⟩
theorem EK (a:Int)(ad:Option Addr)(m c:Nat)(O:Chunk)(hm:m<=4611686018427387904)(hb:¬(0<=a/\a+m<=22528)):Ct 56 [ptr s,.int .i64 a,.slice ad m c] [S,O] fun u Bs=>u = .int .i64 1/\∃S',S'=S/\Bs=[S',O]:=by
 obtain ⟨t,al,ra,rd,C,V,LA,CA,VA,Ld,CD,VD,Al,hV,hC,hA,hG,hD,hP,hL,rfl⟩:=h
 exact (KS s t (ptr al) ra rd txg note a ad m c hm hb).cZ (gK T fr++(C++(V++(CA++(VA++(CD++(VD++(Al++O)))))))) bQ ⟨rfl,_,rfl,rfl⟩
theorem EL (a m:Int)(hm:m<=9223372036854775807)(hb:¬(0<=a/\0<=m/\a+m<=22528)):Ct 65 [ptr s,.int .i64 a,.int .i64 m] [S] fun u Bs=>u = .tuple #[.slice none 0 0,.int .i64 1]/\Bs=[S]:=by
 obtain ⟨t,al,ra,rd,C,V,LA,CA,VA,Ld,CD,VD,Al,hV,hC,hA,hG,hD,hP,hL,rfl⟩:=h
 exact (KT s t (ptr al) ra rd txg note a m hm hb).cZ (gK T fr++(C++(V++(CA++(VA++(CD++(VD++Al))))))) bQ ⟨rfl,rfl⟩
include f
theorem xF (k:Nat)(hk:1<=k/\k<=112)(a m:Nat)(KG:a+m<=65536)(ad:Option Addr)(c:Nat)(O:Chunk)(hf:cy l k (max (kP l k).b.length (a+m)) (q - 10)=false):Ct 46 [ptr s,.int .i64 k,.int .i64 a,.slice ad m c] [S,O] fun u Bs=>u = .int .i64 3/\∃S',S'=S/\Bs=[S',O]:=by
 obtain ⟨t,al,ra,rd,C,V,LA,CA,VA,Ld,CD,VD,Al,hV,hC,hA,hG,hD,hP,hL,rfl⟩:=h
 have hi:=f.rel.Z7 k
 refine (DO t 11 tp pr n ls no V hV f.ok f.n2 s (ptr al) ra rd txg note LA CA hA all VA hG (fun e he=>(f.rel.each e he).2.2.2.1) f.rel.jE k oZ a m KG ad c ?_).cZ (gK T fr++(C++(CD++(VD++(Al++O))))) bQ ⟨rfl,_,rfl,rfl⟩
 rw [f.rel.fits,hi.2.2.2,f.q];exact hf
theorem QY (k:Nat)(hk:1<=k/\k<=112)(a m:Nat)(KG:a+m<=65536)(O:Chunk)(gf:Option Addr)(cb:Nat)(b:List UInt8)(cV:b.length=m)(hO:Rd O 1 (.slice gf m cb) m (ak b))(G0:m<=cb)(hf:cy l k (max (kP l k).b.length (a+m)) (q - 10)=true) :
  Ct 46 [ptr s,.int .i64 k,.int .i64 a,.slice gf m cb] [S,O] fun u Bs=>u = .int .i64 0/\∃S',(∃cd,(∀q,aH cd q=if cQ a m q then some (jG ((Ob.at all k).byte (jW pm)) a b (max (Ob.at all k).size (a+m)) q.toNat) else aH (Ob.at all k).fresh q) /\
   AL T fr p qs tp pr n ls s R no txg note (ec all k { Ob.at all k with size:=max (Ob.at all k).size (a+m),fresh:=cd,clean:=false }) od rm S')/\Bs=[S',O]:=by
 obtain ⟨t,al,ra,rd,C,V,LA,CA,VA,Ld,CD,VD,Al,hV,hC,hA,hG,hD,hP,hL,rfl⟩:=h
 have hi:=f.rel.Z7 k
 refine (Qv T fr p qs t 11 tp pr n ls no V hV f.ok f.n2 R C hC f.ho f.hall f.on.2 s (ptr al) ra rd txg note LA CA hA all VA hG (fun e he=>(f.rel.each e he).2.2.2.1) f.rel.jE k oZ a m KG O gf cb b cV hO G0 (jW pm) (f.Ql _ _ hi.1) (fun e he=>(hi.1.fk e he).2.2) ?_).on (Rs:=CD++(VD++Al)) bQ ?_
 ·rw [f.rel.fits,hi.2.2.2,f.q];exact hf
 ·rintro u Bs ⟨rfl,L',C',V',cd,h1,h2,h3,rfl⟩
  exact ⟨_,[],⟨rfl,_,⟨cd,h1,t,al,ra,rd,C,V,L',C',V',Ld,CD,VD,Al,hV,hC,h2,h3,hD,hP,hL,rfl⟩,rfl⟩,bQ⟩
theorem xG (k:Int)(hk:1<=k/\k<=112)(z:Nat)(hz:z<=65536){o:Ob}(hl:aH all k=some o)(hf:cy l k z (q - 10)=false):Ct 48 [ptr s,.int .i64 k,.int .i64 z] [S] fun u Bs=>u = .int .i64 3/\∃S',S'=S/\Bs=[S']:=by
 obtain ⟨t,al,ra,rd,C,V,LA,CA,VA,Ld,CD,VD,Al,hV,hC,hA,hG,hD,hP,hL,rfl⟩:=h
 refine (DQ t 11 tp pr n ls no V hV f.ok f.n2 s (ptr al) ra rd txg note LA CA hA all VA hG (fun e he=>(f.rel.each e he).2.2.2.1) f.rel.jE k hk z hz o hl ?_).cZ (gK T fr++(C++(CD++(VD++Al)))) bQ ⟨rfl,_,rfl,rfl⟩
 rw [f.rel.fits,f.q];exact hf
theorem QZ (k:Int)(hk:1<=k/\k<=112)(z:Nat)(hz:z<=65536){o:Ob}(hl:aH all k=some o)(hf:cy l k z (q - 10)=true) :
  Ct 48 [ptr s,.int .i64 k,.int .i64 z] [S] fun u Bs=>u = .int .i64 0/\∃S',(∃cd,(∀q,aH cd q=if z<o.size then jy (jW pm) o z q else aH o.fresh q) /\
   AL T fr p qs tp pr n ls s R no txg note (ec all k { o with size:=z,ay:=if z<o.size then o.ay.take (aW z) else o.ay,fresh:=cd,clean:=false }) od rm S')/\Bs=[S']:=by
 obtain ⟨t,al,ra,rd,C,V,LA,CA,VA,Ld,CD,VD,Al,hV,hC,hA,hG,hD,hP,hL,rfl⟩:=h
 obtain ⟨d, -, -,hi,hr⟩:=f.rel.Z8 hl
 have hN:=rN hi.sz
 refine (Pw T fr p qs t 11 tp pr n ls no V hV f.ok f.n2 R C hC f.ho f.hall f.on.2 s (ptr al) ra rd txg note LA CA hA all VA hG (fun e he=>(f.rel.each e he).2.2.2.1) f.rel.jE k hk z hz o hl (fun e he=>by have:=hi.fk e he;have:=hi.sz;omega) ?_ (jW pm) (f.Ql _ _ hi) (fun e he=>(hi.fk e he).2.2) (by have:=hi.pl;omega)).on (Rs:=CD++(VD++Al)) bQ ?_
 ·rw [f.rel.fits,f.q];exact hf
 ·rintro u Bs ⟨rfl,V',cd,h1,h3,rfl⟩
  exact ⟨_,[],⟨rfl,_,⟨cd,h1,t,al,ra,rd,C,V,LA,CA,V',Ld,CD,VD,Al,hV,hC,hA,h3,hD,hP,hL,rfl⟩,rfl⟩,bQ⟩
theorem AP (k z:Int)(hk:1<=k/\k<=112)(hz:1<=z/\z<=112)(jz:k≠z){o:Ob}(hl:aH all k=some o)(hf:cy l z o.size (q - 10)=false):Ct 50 [ptr s,.int .i64 k,.int .i64 z] [S] fun u Bs=>u = .int .i64 3/\∃S',S'=S/\Bs=[S']:=by
 obtain ⟨t,al,ra,rd,C,V,LA,CA,VA,Ld,CD,VD,Al,hV,hC,hA,hG,hD,hP,hL,rfl⟩:=h
 refine (GU t 11 tp pr n ls no V hV f.ok f.n2 s (ptr al) ra rd txg note LA CA hA all VA hG (fun e he=>(f.rel.each e he).2.2.2.1) f.rel.jE k z hk hz jz o hl ?_).cZ (gK T fr++(C++(CD++(VD++Al)))) bQ ⟨rfl,_,rfl,rfl⟩
 rw [f.rel.fits,f.q];exact hf
theorem U6 (k z:Int)(hk:1<=k/\k<=112)(hz:1<=z/\z<=112)(jz:k≠z){o:Ob}(hl:aH all k=some o)(hf:cy l z o.size (q - 10)=true) :
  Ct 50 [ptr s,.int .i64 k,.int .i64 z] [S] fun u Bs=>u = .int .i64 0/\∃S',(∃cd,(∀q,aH cd q=aH o.fresh q)/\AL T fr p qs tp pr n ls s R no txg note (ec all z { o with fresh:=cd }) od rm S')/\Bs=[S']:=by
 obtain ⟨t,al,ra,rd,C,V,LA,CA,VA,Ld,CD,VD,Al,hV,hC,hA,hG,hD,hP,hL,rfl⟩:=h
 obtain ⟨d, -, -,hi,hr⟩:=f.rel.Z8 hl
 have hN:=rN hi.sz
 refine (T4 t 11 tp pr n ls no V hV f.ok f.n2 s (ptr al) ra rd txg note LA CA hA all VA hG (fun e he=>(f.rel.each e he).2.2.2.1) f.rel.jE k z hk hz jz o hl ?_ (fun e he=>⟨hr.fp e he,(hi.fk e he).2.2⟩) ⟨by have:=hi.pl;omega,by have:=hi.il;omega⟩).on (Rs:=gK T fr++(C++(CD++(VD++Al)))) bQ ?_
 ·rw [f.rel.fits,f.q];exact hf
 ·rintro u Bs ⟨rfl,L',C',V',cd,h1,h2,h3,rfl⟩
  exact ⟨_,[],⟨rfl,_,⟨cd,h1,t,al,ra,rd,C,V,L',C',V',Ld,CD,VD,Al,hV,hC,h2,h3,hD,hP,hL,rfl⟩,rfl⟩,bQ⟩
theorem U7 (k:Int)(hk:1<=k/\k<=112)(a m:Nat)(KG:a<9223372036854775808/\m<9223372036854775808){d:au}(hd:ey l k=some d) :
  Ct 30 [ptr s,.int .i64 k,.int .i64 a,.int .i64 m] [S] fun u Bs=>∃ad c E,u = .tuple #[.slice ad (dB d.b.length a m) c,.int .i64 0]/\az E 5 1 (.slice ad (dB d.b.length a m) c) (dB d.b.length a m) (ak ((d.b.drop a).take m))/\Bs=[E,S]:=by
 obtain ⟨t,al,ra,rd,C,V,LA,CA,VA,Ld,CD,VD,Al,hV,hC,hA,hG,hD,hP,hL,rfl⟩:=h
 rcases f.rel.keys k with ⟨-,c⟩ | ⟨o,d',hl,c,hi,hr⟩
 ·rw [hd] at c;cases c
 rw [hd] at c;cases c
 refine (IK T fr p qs t 11 tp pr n ls no V hV f.ok R C hC f.ho f.hall f.on.2 s (ptr al) ra rd txg note LA CA hA all VA hG k hk a m KG o hl hr.sz (jW pm) (f.Ql _ _ hi) (fun e he=>(hi.fk e he).2.2)).on (Rs:=CD++(VD++Al)) bQ ?_
 rintro u Bs ⟨ad,c,E,h1,h2,rfl⟩
 rw [hr.part,hr.size] at h2
 rw [hr.size] at h1
 exact ⟨_,[],⟨ad,c,E,h1,h2,rfl⟩,bQ⟩
theorem Q0 (k:Int)(hk:1<=k/\k<=112)(g:Nat){d:au}(hd:ey l k=some d) :
  Ct 62 [ptr s,.int .i64 k,.int .u64 g] [S] fun u Bs=>∃ad c E,u = .tuple #[.slice ad (l7 d.b.length 0 (aV d g) []).length c,.int .i64 0]/\az E 150 2 (.slice ad (l7 d.b.length 0 (aV d g) []).length c) (l7 d.b.length 0 (aV d g) []).length ((l7 d.b.length 0 (aV d g) []).flatMap Sp.lay)/\Bs=[E,S]:=by
 obtain ⟨t,al,ra,rd,C,V,LA,CA,VA,Ld,CD,VD,Al,hV,hC,hA,hG,hD,hP,hL,rfl⟩:=h
 rcases f.rel.keys k with ⟨-,c⟩ | ⟨o,d',hl,c,hi,hr⟩
 ·rw [hd] at c;cases c
 rw [hd] at c;cases c
 refine (Pu s t (ptr al) ra rd txg note LA CA hA all VA hG k hk g o hl hr.sz).on (Rs:=gK T fr++(C++(V++(CD++(VD++Al))))) bQ ?_
 rintro u Bs ⟨ad,c,E,h1,h2,rfl⟩
 rw [hr.since,hr.size] at h1 h2
 exact ⟨_,[],⟨ad,c,E,h1,h2,rfl⟩,bQ⟩
theorem U8 (a m:Nat)(b:List UInt8)(hm:b.length=m)(ha:a+m<=22528)(eV:1<=no/\no+m<=281474976710656)(hw:R.ws.length+5*m<=900000000000)(O:Chunk)(ad:Option Addr)(c:Nat)(hO:Rd O 1 (.slice ad m c) m (ak b))(hc:m<=c)(bW:(bP ls m R no a b).1.on) :
  Ct 56 [ptr s,.int .i64 a,.slice ad m c] [S,O] fun u Bs=>u = .int .i64 0/\∃S',AL T fr p qs tp pr n ls s (bP ls m R no a b).1 (bP ls m R no a b).2 txg note all od rm S'/\Bs=[S',O]:=by
 obtain ⟨t,al,ra,rd,C,V,LA,CA,VA,Ld,CD,VD,Al,hV,hC,hA,hG,hD,hP,hL,rfl⟩:=h
 refine (T6 s t (ptr al) ra rd txg note T fr p qs 11 tp pr n ls no V hV f.ok f.hall R C hC f.ho a b m hm ha eV hw O ad c hO hc bW.2).on (Rs:=CA++(VA++(CD++(VD++Al)))) bQ ?_
 rintro u Bs ⟨rfl,C',V',h1,h2,rfl⟩
 exact ⟨_,[],⟨rfl,_,⟨t,al,ra,rd,C',V',LA,CA,VA,Ld,CD,VD,Al,h2,h1,hA,hG,hD,hP,hL,rfl⟩,rfl⟩,bQ⟩
theorem U9 (bW:(R.run (iF ls)).on):Ct 59 [ptr s] [S] fun u Bs=>u = .int .i64 0/\∃S',AL T fr p qs tp pr n ls s (R.run (iF ls)) no txg note all od rm S'/\Bs=[S']:=by
 obtain ⟨t,al,ra,rd,C,V,LA,CA,VA,Ld,CD,VD,Al,hV,hC,hA,hG,hD,hP,hL,rfl⟩:=h
 refine (T7 s t (ptr al) ra rd txg note p qs 11 tp pr n ls no V hV f.ok f.hall R C hC f.ho bW.2).on (Rs:=gK T fr++(CA++(VA++(CD++(VD++Al))))) bQ ?_
 rintro u Bs ⟨rfl,C',h1,rfl⟩
 exact ⟨_,[],⟨rfl,_,⟨t,al,ra,rd,C',V,LA,CA,VA,Ld,CD,VD,Al,hV,h1,hA,hG,hD,hP,hL,rfl⟩,rfl⟩,bQ⟩
theorem Va (a m:Nat)(ha:a+m<=22528)(G:List UInt8)(hG0:aX R ls=G):Ct 65 [ptr s,.int .i64 a,.int .i64 m] [S] fun u Bs=>∃ad c E,u = .tuple #[.slice ad m c,.int .i64 0]/\Rd E 1 (.slice ad m c) m (ak ((G.drop a).take m))/\Bs=[E,S]:=by
 obtain ⟨t,al,ra,rd,C,V,LA,CA,VA,Ld,CD,VD,Al,hV,hC,hA,hG,hD,hP,hL,rfl⟩:=h
 refine (T8 s t (ptr al) ra rd txg note T fr p qs 11 tp pr n ls no V hV f.ok f.hall R C hC f.ho f.on.2 a m ha (QT hC.ok ls)).on (Rs:=CA++(VA++(CD++(VD++Al)))) bQ ?_
 rintro u Bs ⟨ad,c,E,h1,h2,rfl⟩
 rw [hG0] at h2
 exact ⟨_,[],⟨ad,c,E,h1,h2.rd,rfl⟩,bQ⟩
end
def EM (a:Nat)(l:List au)(txg note room:Nat)(G Z:List UInt8)(M:Chunk):Prop :=
 ∃ad c D O adG cG DG bG cS DS,IV D (.slice ad l.length c) l.length (l.flatMap au.lay)/\l.length<=c/\DE O l/\az DG 5 1 (.slice adG 22528 cG) 22528 (ak G)/\az DS 5 1 (.slice bG 22528 cS) 22528 (ak Z) /\
  M=[(a,eK (.slice ad l.length c) txg note room (.slice adG 22528 cG) (.slice bG 22528 cS))]++(D++(O++(DG++DS)))
section
variable {a:Nat}{l:List au}{txg note room:Nat}{G Z:List UInt8}{M:Chunk}(h:EM a l txg note room G Z M)(aQ:mJ l)(hr:room<=100000)
theorem AQ (k x:Int)(gf:Option Addr)(m cb:Nat)(A:Chunk)(hb:¬(1<=k/\k<=112)\/x<0\/65536<x\/65536 - x<m):Ct 47 [ptr a,.int .i64 k,.int .i64 x,.slice gf m cb] [M,A] fun u Bs=>u = .int .i64 1/\∃M',M'=M/\Bs=[M',A] :=
 (Ed (a:=a) k x gf m cb hb).cZ (M++A) bQ ⟨rfl,_,rfl,rfl⟩
theorem qz (k z:Int)(hb:¬(1<=k/\k<=112)\/z<0\/65536<z):Ct 49 [ptr a,.int .i64 k,.int .i64 z] [M] fun u Bs=>u = .int .i64 1/\∃M',M'=M/\Bs=[M'] :=
 (Ee (a:=a) k z hb).cZ M bQ ⟨rfl,_,rfl,rfl⟩
theorem sH (k z:Int)(hb:¬(1<=k/\k<=112)\/¬(1<=z/\z<=112)):Ct 51 [ptr a,.int .i64 k,.int .i64 z] [M] fun u Bs=>u = .int .i64 1/\∃M',M'=M/\Bs=[M'] :=
 (G1 (a:=a) k z hb).cZ M bQ ⟨rfl,_,rfl,rfl⟩
theorem EN (k:Int)(hb:¬(1<=k/\k<=112)):Ct 53 [ptr a,.int .i64 k] [M] fun u Bs=>u = .int .i64 1/\∃M',M'=M/\Bs=[M'] :=
 (G3 (a:=a) k hb).cZ M bQ ⟨rfl,_,rfl,rfl⟩
theorem sI (k x y:Int)(hb:¬(1<=k/\k<=112)\/x<0\/y<0):Ct 60 [ptr a,.int .i64 k,.int .i64 x,.int .i64 y] [M] fun u Bs=>u = .tuple #[.slice none 0 0,.int .i64 1]/\Bs=[M] :=
 (KX (a:=a) k x y hb).cZ M bQ ⟨rfl,rfl⟩
include h
theorem EO (x:Int)(gf:Option Addr)(m cb:Nat)(A:Chunk)(hb:x<0\/22528<x\/22528 - x<m):Ct 57 [ptr a,.int .i64 x,.slice gf m cb] [M,A] fun u Bs=>u = .int .i64 1/\∃M',M'=M/\Bs=[M',A]:=by
 obtain ⟨ad,c,D,O,adG,cG,DG,bG,cS,DS,h1,h2,h3,h4,h5,rfl⟩:=h
 exact (G6 (a:=a) (vL:=.slice ad l.length c) (txg:=txg) (note:=note) (room:=room) (adG:=adG) (cG:=cG) (vS:=.slice bG 22528 cS) x gf m cb hb).cZ (D++(O++(DG++(DS++A)))) bQ ⟨rfl,_,rfl,rfl⟩
theorem ER (x y:Int)(hb:x<0\/y<0\/22528<x\/22528 - x<y):Ct 66 [ptr a,.int .i64 x,.int .i64 y] [M] fun u Bs=>u = .tuple #[.slice none 0 0,.int .i64 1]/\Bs=[M]:=by
 obtain ⟨ad,c,D,O,adG,cG,DG,bG,cS,DS,h1,h2,h3,h4,h5,rfl⟩:=h
 exact (G7 (a:=a) (vL:=.slice ad l.length c) (txg:=txg) (note:=note) (room:=room) (adG:=adG) (cG:=cG) (vS:=.slice bG 22528 cS) x y hb).cZ (D++(O++(DG++DS))) bQ ⟨rfl,rfl⟩
theorem Vb (x:Nat)(b:List UInt8)(m:Nat)(hm:b.length=m)(hx:x+m<=22528)(hG:G.length=22528)(A:Chunk)(gf:Option Addr)(cb:Nat)(hA:Rd A 1 (.slice gf m cb) m (ak b)):Ct 57 [ptr a,.int .i64 x,.slice gf m cb] [M,A] fun u Bs=>u = .int .i64 0/\∃M',EM a l txg note room (sA G x b) Z M'/\Bs=[M',A]:=by
 obtain ⟨ad,c,D,O,adG,cG,DG,bG,cS,DS,h1,h2,h3,h4,h5,rfl⟩:=h
 refine (P5 a (.slice ad l.length c) txg note room G hG adG cG DG h4 (.slice bG 22528 cS) x b m hm hx A gf cb hA).on (Rs:=D++(O++DS)) bQ ?_
 rintro u Bs ⟨rfl,wo,k1,rfl⟩
 exact ⟨_,[],⟨rfl,_,⟨ad,c,D,O,adG,cG,wo,bG,cS,DS,h1,h2,h3,k1,h5,rfl⟩,rfl⟩,bQ⟩
theorem Vc (x m:Nat)(hx:x+m<=22528):Ct 66 [ptr a,.int .i64 x,.int .i64 m] [M] fun u Bs=>∃ad c,u = .tuple #[.slice ad m c,.int .i64 0]/\Rd M 1 (.slice ad m c) m (ak ((G.drop x).take m))/\Bs=[M]:=by
 obtain ⟨ad,c,D,O,adG,cG,DG,bG,cS,DS,h1,h2,h3,h4,h5,rfl⟩:=h
 refine (P4 a (.slice ad l.length c) txg note room G adG cG DG h4 (.slice bG 22528 cS) x m hx).on (Rs:=D++(O++DS)) bQ ?_
 rintro u Bs ⟨ba,c',k1,k2,rfl⟩
 exact ⟨_,[],⟨ba,c',k1,k2.sub fun x hx=>by simp only [List.mem_append,hx,true_or,or_true],rfl⟩,bQ⟩
theorem Lw (aQ:mJ l)(dS:Nat)(Az:txg+1<18446744073709551616):Ct 54 [ptr a,.int .u64 dS] [M] fun _ Bs=>∃M',EM a (l.map (lJ (txg+1))) (txg+1) dS room G G M'/\Bs=[M']:=by
 obtain ⟨ad,c,D,O,adG,cG,DG,bG,cS,DS,h1,h2,h3,h4,h5,rfl⟩:=h
 refine (Hk a l aQ txg note room dS Az G adG cG DG h4.rd (.slice bG 22528 cS) ad c D O h1 h3).on (Rs:=DS) bQ ?_
 rintro u Bs ⟨D',fU,cT,DT,k1,k2,rfl⟩
 have e:(l.map (lJ (txg+1))).length=l.length:=List.length_map ..
 refine ⟨_,DS,⟨_,⟨ad,c,D',O,adG,cG,DG,fU,cT,DT,by rw [e];exact k1,by rw [e];exact h2,fun o ho => ?_,h4,k2,rfl⟩,by rw [e]⟩,bQ⟩
 obtain ⟨o',dN,rfl⟩:=List.mem_map.1 ho
 have e2:(lJ (txg+1) o').b=o'.b/\(lJ (txg+1) o').v=o'.v:=⟨(dq _ o' 64).2.1,(dq _ o' 64).2.2⟩
 rw [e2.1,e2.2]
 exact h3 o' dN
theorem Vd (aQ:mJ l):Ct 19 [ptr a] [M] fun u Bs=>∃d l' D',u=ptr d/\l'.map au.nv=l.map au.nv/\EM d l' txg note room G Z D'/\Bs=[D',M]:=by
 obtain ⟨ad,c,D,O,adG,cG,DG,bG,cS,DS,h1,h2,h3,h4,h5,rfl⟩:=h
 refine (wq a l aQ txg note room G Z adG cG DG h4.rd bG cS DS h5.rd ad c D O h1.1 h3).on (Rs:=[]) bQ ?_
 rintro u Bs ⟨d,l',ba,c',D',E,kS,yD,wo,j8,xA,Ax,rfl,k1,k2,k3,k4,k5,rfl⟩
 exact ⟨_,[],⟨d,l',_,rfl,k1,⟨ba,c',D',E,kS,yD,wo,j8,xA,Ax,IV.of k2,by have:=k2.dL;omega,k3,k4,k5,rfl⟩,rfl⟩,bQ⟩
include aQ
theorem Hv (k:Int)(hk:1<=k/\k<=112)(x y:Nat)(hn:ey l k=none):Ct 60 [ptr a,.int .i64 k,.int .i64 x,.int .i64 y] [M] fun u Bs=>u = .tuple #[.slice none 0 0,.int .i64 130]/\Bs=[M]:=by
 obtain ⟨ad,c,D,O,adG,cG,DG,bG,cS,DS,h1,h2,h3,h4,h5,rfl⟩:=h
 exact (PF a l aQ txg note room (.slice adG 22528 cG) (.slice bG 22528 cS) ad c D h1.1 k hk x y hn).cZ (O++(DG++DS)) bQ ⟨rfl,rfl⟩
theorem Ve (k:Int):Ct 61 [ptr a,.int .i64 k] [M] fun u Bs=>u = .tuple #[.int .i64 (iD l k).1,.int .i64 (iD l k).2]/\Bs=[M]:=by
 obtain ⟨ad,c,D,O,adG,cG,DG,bG,cS,DS,h1,h2,h3,h4,h5,rfl⟩:=h
 exact (An a l aQ txg note room (.slice adG 22528 cG) (.slice bG 22528 cS) ad c D O h1.1 h3 k).cZ (O++(DG++DS)) bQ ⟨rfl,rfl⟩
theorem Vf (k:Int)(hk:1<=k/\k<=112)(x y:Nat)(hxy:x<9223372036854775808/\y<9223372036854775808){o:au}(ho:ey l k=some o):Ct 60 [ptr a,.int .i64 k,.int .i64 x,.int .i64 y] [M] fun u Bs=>∃ad c,u = .tuple #[.slice ad (dB o.b.length x y) c,.int .i64 0]/\Rd M 1 (.slice ad (dB o.b.length x y) c) (dB o.b.length x y) (ak ((o.b.drop x).take y))/\Bs=[M]:=by
 obtain ⟨ad,c,D,O,adG,cG,DG,bG,cS,DS,h1,h2,h3,h4,h5,rfl⟩:=h
 refine (PG a l aQ txg note room (.slice adG 22528 cG) (.slice bG 22528 cS) ad c D O h1.1 h3 k hk x y hxy o ho).on (Rs:=DG++DS) bQ ?_
 rintro u Bs ⟨ba,c',k1,k2,rfl⟩
 exact ⟨_,[],⟨ba,c',k1,k2.sub fun x hx=>by simp only [List.mem_append,hx,true_or,or_true],rfl⟩,bQ⟩
theorem ES (k:Int)(g:Nat)(hn:(iD l k).2≠0):Ct 63 [ptr a,.int .i64 k,.int .u64 g] [M] fun u Bs=>u = .tuple #[.slice none 0 0,.int .i64 (iD l k).2]/\Bs=[M]:=by
 obtain ⟨ad,c,D,O,adG,cG,DG,bG,cS,DS,h1,h2,h3,h4,h5,rfl⟩:=h
 exact (KY a l aQ txg note room (.slice adG 22528 cG) (.slice bG 22528 cS) ad c D O h1.1 h3 k g hn).cZ (O++(DG++DS)) bQ ⟨rfl,rfl⟩
theorem Q1 (k:Int)(hk:1<=k/\k<=112)(g:Nat){o:au}(ho:ey l k=some o):Ct 63 [ptr a,.int .i64 k,.int .u64 g] [M] fun u Bs=>∃ad c E,u = .tuple #[.slice ad (l7 o.b.length 0 (aV o g) []).length c,.int .i64 0]/\az E 150 2 (.slice ad (l7 o.b.length 0 (aV o g) []).length c) (l7 o.b.length 0 (aV o g) []).length ((l7 o.b.length 0 (aV o g) []).flatMap Sp.lay)/\Bs=[E,M]:=by
 obtain ⟨ad,c,D,O,adG,cG,DG,bG,cS,DS,h1,h2,h3,h4,h5,rfl⟩:=h
 refine (PH a l aQ txg note room (.slice adG 22528 cG) (.slice bG 22528 cS) ad c D O h1.1 h3 k hk g o ho).on (Rs:=O++(DG++DS)) bQ ?_
 rintro u Bs ⟨ba,c',E,k1,k2,rfl⟩
 exact ⟨_,[],⟨ba,c',E,k1,k2,rfl⟩,bQ⟩
theorem Vg (k:Int)(hk:1<=k/\k<=112):(ey l k=none/\Ct 53 [ptr a,.int .i64 k] [M] fun u Bs=>u = .int .i64 130/\∃M',M'=M/\Bs=[M'])\/(∃o,ey l k=some o)/\Ct 53 [ptr a,.int .i64 k] [M] fun u Bs=>u = .int .i64 0/\∃M',(∃i o,l[i]? = some o/\(o.no:Int)=k/\EM a (l.take i++l.drop (i+1)) txg note room G Z M')/\Bs=[M']:=by
 obtain ⟨ad,c,D,O,adG,cG,DG,bG,cS,DS,h1,h2,h3,h4,h5,rfl⟩:=h
 have c:=PR a l aQ txg note room (.slice adG 22528 cG) (.slice bG 22528 cS) ad c D k hk h1 h2
 cases hl:ey l k with
 | none =>
  refine .inl ⟨rfl,c.on (Rs:=O++(DG++DS)) bQ ?_⟩
  rintro u Bs (⟨-,rfl,rfl⟩ | ⟨i,o, -, -, -, -, -,e, -⟩)
  ·exact ⟨_,[],⟨rfl,_,rfl,rfl⟩,bQ⟩
  ·rw [hl] at e;cases e
 | some o =>
  refine .inr ⟨⟨o,rfl⟩,c.on (Rs:=O++(DG++DS)) bQ ?_⟩
  rintro u Bs (⟨e, -⟩ | ⟨i,o',l',ba,c',D',k1,k2,rfl,rfl,k3,k4,rfl⟩)
  ·rw [hl] at e;cases e
  ·exact ⟨_,[],⟨rfl,_,⟨i,o',k1,(fg k2).2,ba,c',D',O,adG,cG,DG,bG,cS,DS,k3,k4,fun x hx=>h3 x (by
    rcases List.mem_append.1 hx with hx | hx
    ·exact List.mem_of_mem_take hx
    ·exact List.mem_of_mem_drop hx),h4,h5,rfl⟩,rfl⟩,bQ⟩
include hr
theorem xH (k:Nat)(hk:1<=k/\k<=112)(x m:Nat)(Ti:x+m<=65536)(B:Chunk)(gf:Option Addr)(cb:Nat)(b:List UInt8)(cV:b.length=m)(hB:Rd B 1 (.slice gf m cb) m (ak b))(G0:m<=cb)(hf:cy l k (max (kP l k).b.length (x+m)) room=false) :
  Ct 47 [ptr a,.int .i64 k,.int .i64 x,.slice gf m cb] [M,B] fun u Bs=>u = .int .i64 3/\∃M',M'=M/\Bs=[M',B]:=by
 obtain ⟨ad,c,D,O,adG,cG,DG,bG,cS,DS,h1,h2,h3,h4,h5,rfl⟩:=h
 refine (yC a l aQ txg note room hr (.slice adG 22528 cG) (.slice bG 22528 cS) ad c D O h1.1 h3 k hk x m Ti B gf cb b cV hB G0).on (Rs:=DG++DS) bQ ?_
 rintro u Bs (⟨-,rfl,rfl⟩ | ⟨hc, -⟩)
 ·exact ⟨_,[],⟨rfl,_,rfl,rfl⟩,bQ⟩
 ·rw [hf] at hc;cases hc
theorem Q2 (k:Nat)(hk:1<=k/\k<=112)(x m:Nat)(Ti:x+m<=65536)(B:Chunk)(gf:Option Addr)(cb:Nat)(b:List UInt8)(cV:b.length=m)(hB:Rd B 1 (.slice gf m cb) m (ak b))(G0:m<=cb)(hf:cy l k (max (kP l k).b.length (x+m)) room=true) :
  Ct 47 [ptr a,.int .i64 k,.int .i64 x,.slice gf m cb] [M,B] fun u Bs=>u = .int .i64 0/\∃M',(∃v,EM a (dF { kP l k with b:=K0 (kP l k).b (max (kP l k).b.length (x+m)) x b,gC:=p7 (kP l k) x m,v:=v } false l) txg note room G Z M')/\Bs=[M',B]:=by
 obtain ⟨ad,c,D,O,adG,cG,DG,bG,cS,DS,h1,h2,h3,h4,h5,rfl⟩:=h
 refine (yC a l aQ txg note room hr (.slice adG 22528 cG) (.slice bG 22528 cS) ad c D O h1.1 h3 k hk x m Ti B gf cb b cV hB G0).on (Rs:=DG++DS) bQ ?_
 rintro u Bs (⟨hc, -⟩ | ⟨-,rfl,v,l',ba,c',D',E,rfl,k1,k2,rfl⟩)
 ·rw [hf] at hc;cases hc
 ·exact ⟨_,[],⟨rfl,_,⟨v,ba,c',D',O++E,adG,cG,DG,bG,cS,DS,IV.of k2,by have:=k2.dL;omega,k1,h4,h5,rfl⟩,rfl⟩,bQ⟩
theorem ET (k:Int)(hk:1<=k/\k<=112)(z:Nat)(hz:z<=65536)(hn:ey l k=none):Ct 49 [ptr a,.int .i64 k,.int .i64 z] [M] fun u Bs=>u = .int .i64 130/\∃M',M'=M/\Bs=[M']:=by
 obtain ⟨ad,c,D,O,adG,cG,DG,bG,cS,DS,h1,h2,h3,h4,h5,rfl⟩:=h
 refine (rJ a l aQ txg note room hr (.slice adG 22528 cG) (.slice bG 22528 cS) ad c D O h1.1 h3 k hk z hz).on (Rs:=DG++DS) bQ ?_
 rintro u Bs (⟨-,rfl,rfl⟩ | ⟨o,e, -⟩)
 ·exact ⟨_,[],⟨rfl,_,rfl,rfl⟩,bQ⟩
 ·rw [hn] at e;cases e
theorem xI (k:Int)(hk:1<=k/\k<=112)(z:Nat)(hz:z<=65536){o:au}(hl:ey l k=some o)(hf:cy l k z room=false):Ct 49 [ptr a,.int .i64 k,.int .i64 z] [M] fun u Bs=>u = .int .i64 3/\∃M',M'=M/\Bs=[M']:=by
 obtain ⟨ad,c,D,O,adG,cG,DG,bG,cS,DS,h1,h2,h3,h4,h5,rfl⟩:=h
 refine (rJ a l aQ txg note room hr (.slice adG 22528 cG) (.slice bG 22528 cS) ad c D O h1.1 h3 k hk z hz).on (Rs:=DG++DS) bQ ?_
 rintro u Bs (⟨e, -⟩ | ⟨o', -,⟨-,rfl,rfl⟩ | ⟨hc, -⟩⟩)
 ·rw [hl] at e;cases e
 ·exact ⟨_,[],⟨rfl,_,rfl,rfl⟩,bQ⟩
 ·rw [hf] at hc;cases hc
theorem Q4 (k:Int)(hk:1<=k/\k<=112)(z:Nat)(hz:z<=65536){o:au}(hl:ey l k=some o)(hf:cy l k z room=true):Ct 49 [ptr a,.int .i64 k,.int .i64 z] [M] fun u Bs=>u = .int .i64 0/\∃M',(∃v,EM a (dF { Wx o z with b:=dH z o.b,v:=v } false l) txg note room G Z M')/\Bs=[M']:=by
 obtain ⟨ad,c,D,O,adG,cG,DG,bG,cS,DS,h1,h2,h3,h4,h5,rfl⟩:=h
 refine (rJ a l aQ txg note room hr (.slice adG 22528 cG) (.slice bG 22528 cS) ad c D O h1.1 h3 k hk z hz).on (Rs:=DG++DS) bQ ?_
 rintro u Bs (⟨e, -⟩ | ⟨o',e,⟨hc, -⟩ | ⟨-,rfl,v,l',ba,c',D',E,rfl,k1,k2,rfl⟩⟩)
 ·rw [hl] at e;cases e
 ·rw [hf] at hc;cases hc
 ·rw [hl] at e;cases e
  exact ⟨_,[],⟨rfl,_,⟨v,ba,c',D',O++E,adG,cG,DG,bG,cS,DS,IV.of k2,by have:=k2.dL;omega,k1,h4,h5,rfl⟩,rfl⟩,bQ⟩
theorem Hw (k:Int)(hk:1<=k/\k<=112)(z:Nat)(hz:1<=z/\z<=112)(hn:ey l k=none):Ct 51 [ptr a,.int .i64 k,.int .i64 z] [M] fun u Bs=>u = .int .i64 130/\∃M',M'=M/\Bs=[M']:=by
 obtain ⟨ad,c,D,O,adG,cG,DG,bG,cS,DS,h1,h2,h3,h4,h5,rfl⟩:=h
 refine (p9 a l aQ txg note room hr (.slice adG 22528 cG) (.slice bG 22528 cS) ad c D O h1.1 h3 k hk z hz).on (Rs:=DG++DS) bQ ?_
 rintro u Bs (⟨-,rfl,rfl⟩ | ⟨o,e, -⟩)
 ·exact ⟨_,[],⟨rfl,_,rfl,rfl⟩,bQ⟩
 ·rw [hn] at e;cases e
theorem AR (z:Nat)(hz:1<=z/\z<=112){o:au}(hl:ey l z=some o):Ct 51 [ptr a,.int .i64 z,.int .i64 z] [M] fun u Bs=>u = .int .i64 0/\∃M',M'=M/\Bs=[M']:=by
 obtain ⟨ad,c,D,O,adG,cG,DG,bG,cS,DS,h1,h2,h3,h4,h5,rfl⟩:=h
 refine (p9 a l aQ txg note room hr (.slice adG 22528 cG) (.slice bG 22528 cS) ad c D O h1.1 h3 z oZ z hz).on (Rs:=DG++DS) bQ ?_
 rintro u Bs (⟨e, -⟩ | ⟨o', -,⟨-,rfl,rfl⟩ | ⟨hc, -⟩ | ⟨hc, -⟩⟩)
 ·rw [hl] at e;cases e
 ·exact ⟨_,[],⟨rfl,_,rfl,rfl⟩,bQ⟩
 ·exact absurd rfl hc
 ·exact absurd rfl hc
theorem AS (k:Int)(hk:1<=k/\k<=112)(z:Nat)(hz:1<=z/\z<=112)(jz:k≠z){o:au}(hl:ey l k=some o)(hf:cy l z o.b.length room=false):Ct 51 [ptr a,.int .i64 k,.int .i64 z] [M] fun u Bs=>u = .int .i64 3/\∃M',M'=M/\Bs=[M']:=by
 obtain ⟨ad,c,D,O,adG,cG,DG,bG,cS,DS,h1,h2,h3,h4,h5,rfl⟩:=h
 refine (p9 a l aQ txg note room hr (.slice adG 22528 cG) (.slice bG 22528 cS) ad c D O h1.1 h3 k hk z hz).on (Rs:=DG++DS) bQ ?_
 rintro u Bs (⟨e, -⟩ | ⟨o',e,⟨hc, -⟩ | ⟨-, -,rfl,rfl⟩ | ⟨-,hc, -⟩⟩)
 ·rw [hl] at e;cases e
 ·exact absurd hc jz
 ·exact ⟨_,[],⟨rfl,_,rfl,rfl⟩,bQ⟩
 ·rw [hl] at e;cases e
  rw [hf] at hc;cases hc
theorem Vh (k:Int)(hk:1<=k/\k<=112)(z:Nat)(hz:1<=z/\z<=112)(jz:k≠z){o:au}(hl:ey l k=some o)(hf:cy l z o.b.length room=true):Ct 51 [ptr a,.int .i64 k,.int .i64 z] [M] fun u Bs=>u = .int .i64 0/\∃M',(∃v,EM a (dF { o with no:=z,v:=v } false l) txg note room G Z M')/\Bs=[M']:=by
 obtain ⟨ad,c,D,O,adG,cG,DG,bG,cS,DS,h1,h2,h3,h4,h5,rfl⟩:=h
 refine (p9 a l aQ txg note room hr (.slice adG 22528 cG) (.slice bG 22528 cS) ad c D O h1.1 h3 k hk z hz).on (Rs:=DG++DS) bQ ?_
 rintro u Bs (⟨e, -⟩ | ⟨o',e,⟨hc, -⟩ | ⟨-,hc, -⟩ | ⟨-, -,rfl,v,l',ba,c',D',E,rfl,k1,k2,rfl⟩⟩)
 ·rw [hl] at e;cases e
 ·exact absurd hc jz
 ·rw [hl] at e;cases e
  rw [hf] at hc;cases hc
 ·rw [hl] at e;cases e
  exact ⟨_,[],⟨rfl,_,⟨v,ba,c',D',O++E,adG,cG,DG,bG,cS,DS,IV.of k2,by have:=k2.dL;omega,k1,h4,h5,rfl⟩,rfl⟩,bQ⟩
end
set_option maxHeartbeats 4000000
section
variable (rg p s a d:Nat)(vQ:Value)(S M A Dn:Chunk)(k z x y e:Int)(nt:Nat)(b:Value)(PS PM:Chunk->Prop)
theorem I7 (hs:Ct 56 [ptr s,.int .i64 x,b] [S,A] fun u Bs=>u = .int .i64 e/\∃S',PS S'/\Bs=[S',A])(hd:Ct 57 [ptr a,.int .i64 x,b] [M,A] fun u Bs=>u = .int .i64 e/\∃M',PM M'/\Bs=[M',A]) :
  Ct 20 [ptr rg,nM 9 k z x y nt b] [[(rg,l3 p vQ s a d)],S,M,A] fun u Bs=>u = .bool true/\∃S' M',PS S'/\PM M'/\Bs=[[(rg,l3 p vQ s a d)],S',M',A]:=by
 refine st Tryz.func20 fun w0 => ?_
 refine ga ?_;intro b3
 refine qC [[(rg,l3 p vQ s a d)],[(b3,opO 9 k z x y nt b)]] [0,4,8,12,16,20,24,28,36,40,44,48,52,56,60,64,33,71,74,78] ?_
 refine gc hs ?_
 rintro _ _ ⟨rfl,S',h1,rfl⟩
 refine gc hd ?_
 rintro _ _ ⟨rfl,M',h2,rfl⟩
 refine gz ?_
 exact fin ⟨by simp,S',M',h1,h2,rfl⟩ aa
theorem Q5 (PD:Chunk->Prop)(hf:Ct 58 [ptr rg] [[(rg,l3 p vQ s a d)],M,Dn] fun _ Bs=>∃M' D',PM M'/\PD D'/\Bs=[[(rg,l3 p vQ s a d)],M',D'])
  (hs:Ct 59 [ptr s] [S] fun u Bs=>u = .int .i64 0/\∃S',PS S'/\Bs=[S']) :
  Ct 20 [ptr rg,nM 10 k z x y nt b] [[(rg,l3 p vQ s a d)],S,M,Dn] fun u Bs=>u = .bool true/\∃S' M' D',PS S'/\PM M'/\PD D'/\Bs=[[(rg,l3 p vQ s a d)],S',M',D']:=by
 refine st Tryz.func20 fun w0 => ?_
 refine ga ?_;intro b3
 refine gc hf ?_
 rintro _ _ ⟨M',D',h1,h2,rfl⟩
 refine gc hs ?_
 rintro _ _ ⟨rfl,S',h3,rfl⟩
 refine gz ?_
 exact fin ⟨by simp,S',M',D',h3,h1,h2,rfl⟩ aa
theorem Lx (PD:Chunk->Nat->Chunk->Prop)(hm:Ct 54 [ptr a,.int .u64 nt] [M] fun _ Bs=>∃M',PM M'/\Bs=[M'])
  (hc:∀M',PM M'->Ct 19 [ptr a] [M'] fun u Bs=>∃d' D',u=ptr d'/\PD M' d' D'/\Bs=[D',M'])
  (hs:Ct 55 [ptr s,.int .u64 nt] [S] fun u Bs=>u = .int .i64 0/\∃S',PS S'/\Bs=[S']) :
  Ct 20 [ptr rg,nM 7 k z x y nt b] [[(rg,l3 p vQ s a d)],S,M] fun u Bs=>u = .bool true/\∃S' M' d' D',PS S'/\PM M'/\PD M' d' D'/\Bs=[[(rg,l3 p vQ s a d')],S',M',D']:=by
 refine st Tryz.func20 fun w0 => ?_
 refine ga ?_;intro b3
 refine gc hm ?_
 rintro _ _ ⟨M',h1,rfl⟩
 refine gc (hc M' h1) ?_
 rintro _ _ ⟨d',D',rfl,h2,rfl⟩
 refine qC [[(rg,l3 p vQ s a d')],[(b3,opO 7 k z x y nt b)]] [0,4,8,12,16,20,27,30,34] ?_
 refine gc hs ?_
 rintro _ _ ⟨rfl,S',h3,rfl⟩
 refine gz ?_
 exact fin ⟨by simp,S',M',d',D',h3,h1,h2,rfl⟩ aa
theorem Vi (o:Int)(h0:o≠0)(h1:o≠1)(h2:o≠2)(h3:o≠3)(h7:o≠7)(h9:o≠9)(UY:o≠10) :
  Ct 20 [ptr rg,nM o k z x y nt b] [] fun u Bs=>u = .bool true/\Bs=[]:=by
 refine st Tryz.func20 fun w0 => ?_
 refine ga ?_;intro b3
 refine gz ?_
 exact fin ⟨rfl,rfl⟩ aa
end
section
variable (rg p s a d:Nat)(vQ:Value)(S M A:Chunk)(k z x y e:Int)(nt:Nat)(PS PM:Chunk->Prop)
theorem wP (bs:List UInt8)(m:Nat)(cV:bs.length=m)(gf:Option Addr)(cb:Nat)(hA:Rd A 1 (.slice gf m cb) m (ak bs))(hm:m<=1048576)
  (hs:∀B' adc cc,az B' 5 1 (.slice adc m cc) m (ak bs)->Ct 46 [ptr s,.int .i64 k,.int .i64 x,.slice adc m cc] [S,B'] fun u Bs=>u = .int .i64 e/\∃S',PS S'/\Bs=[S',B'])
  (hd:Ct 47 [ptr a,.int .i64 k,.int .i64 x,.slice gf m cb] [M,A] fun u Bs=>u = .int .i64 e/\∃M',PM M'/\Bs=[M',A]) :
  Ct 20 [ptr rg,nM 0 k z x y nt (.slice gf m cb)] [[(rg,l3 p vQ s a d)],S,M,A] fun u Bs=>u = .bool true/\∃S' M',PS S'/\PM M'/\Bs=[[(rg,l3 p vQ s a d)],S',M',A]:=by
 refine st Tryz.func20 fun w0 => ?_
 refine ga ?_;intro b3
 refine gp ?_;intro adc cc B' AX
 have hBr:=AX.rd
 refine gd [0,4,8,12,16,20,24,28,32,39,42] ?_
 refine gc (hs B' adc cc AX) ?_
 rintro _ _ ⟨rfl,S',h1,rfl⟩
 refine go ?_
 rw [show decide (bs=bs)=true from decide_eq_true rfl]
 obtain ⟨g1,g2,⟨hv,h3,rfl⟩ | ⟨g,c1,r,hv,rfl,h3,h4,h5⟩⟩:=AX
 ·cases hv
  refine gl [0,3,5,6,7] (fun i:Nat=>[(8,.int .i64 i)]) (fun _=>[]) (fun i=>i=0) (fun _=>0) 0 rfl ?_
  rintro i rfl
  refine gd [0,4,10,12,16,20,24,28,32,36,40,44,48,55,58,62,66] ?_
  refine gc hd ?_
  rintro _ _ ⟨rfl,M',h2,rfl⟩
  refine gz ?_
  exact fin ⟨by simp,S',M',h1,h2,rfl⟩ aa
 ·cases hv
  refine gl [0,3,5,6,7] (fun ((i,_):Nat×List Value)=>[(8,.int .i64 i)]) (fun (i,pre)=>[[(g,av (pre++((ak bs).drop i++r)) 5)]]) (fun (i,pre)=>i<=m/\pre.length=i) (fun (i,_)=>m - i) (0,[]) ⟨by omega,rfl⟩ ?_
  rintro ⟨i,pre⟩ ⟨hi,sK⟩
  refine gi ?_ ?_ <;> intro bh
  ·have bo:i<bs.length:=by omega
   have OD:(ak bs).drop i = .int .u8 (bs[i].toNat:Int) :: (ak bs).drop (i+1):=by
    rw [List.drop_eq_getElem_cons (by rw [ai];omega)]
    congr 1
    simp [ak]
   rw [OD]
   have bV:(pre++(.int .u8 (bs[i].toNat:Int) :: (ak bs).drop (i+1)++r))[i]? = some (.int .u8 (bs[i].toNat:Int)):=by
    rw [List.getElem?_append_right oZ,sK,Nat.sub_self];rfl
   have eQ:∀v,(pre++(.int .u8 (bs[i].toNat:Int) :: (ak bs).drop (i+1)++r)).set i v=(pre++[v])++((ak bs).drop (i+1)++r):=fun v=>by
    rw [List.set_append_right _ _ oZ,sK,Nat.sub_self,List.append_assoc];rfl
   refine go ?_
   rw [eQ]
   refine gn ?_
   exact ⟨(i+1,pre++[_]),⟨by omega,by simp [sK]⟩,by simp only;omega,aq,_,aa⟩
  ·obtain rfl:i=m:=by omega
   refine gd [0,4,10,12,16,20,24,28,32,36,40,44,48,55,58,62,66] ?_
   refine gc hd ?_
   rintro _ _ ⟨rfl,M',h2,rfl⟩
   refine gz ?_
   exact fin ⟨by simp,S',M',h1,h2,rfl⟩ aa
end
section
variable (rg p s a d:Nat)(vQ:Value)(S M:Chunk)(k z x y e e1 e2:Int)(nt:Nat)(b:Value)
theorem Vj (hs:Ct 29 [ptr s,.int .i64 k] [S] fun u Bs=>u = .tuple #[.int .i64 e1,.int .i64 e2]/\Bs=[S])(hd:Ct 61 [ptr a,.int .i64 k] [M] fun u Bs=>u = .tuple #[.int .i64 e1,.int .i64 e2]/\Bs=[M]) :
  Ct 21 [ptr rg,nM 5 k z x y nt b] [[(rg,l3 p vQ s a d)],S,M] fun u Bs=>u = .bool true/\Bs=[[(rg,l3 p vQ s a d)],S,M]:=by
 refine st Tryz.func21 fun w0 => ?_
 refine ga ?_;intro b3
 refine gd [0,4,8,12,16,20,27,30,34,38,42,46] ?_
 refine gc hs ?_
 rintro _ _ ⟨rfl,rfl⟩
 refine gd [0,4,8,12,16,20,27,30,34,38,42,46] ?_
 refine gc hd ?_
 rintro _ _ ⟨rfl,rfl⟩
 refine gz ?_
 exact fin ⟨by simp,rfl⟩ aa
theorem I8 (N:Nat)(bs:List UInt8)(hs:Ct 65 [ptr s,.int .i64 x,.int .i64 y] [S] fun u Bs=>∃ad c E,u = .tuple #[.slice ad N c,.int .i64 e]/\Rd E 1 (.slice ad N c) N (ak bs)/\Bs=[E,S])
  (hd:Ct 66 [ptr a,.int .i64 x,.int .i64 y] [M] fun u Bs=>∃ad c,u = .tuple #[.slice ad N c,.int .i64 e]/\Rd M 1 (.slice ad N c) N (ak bs)/\Bs=[M]) :
  Ct 21 [ptr rg,nM 11 k z x y nt b] [[(rg,l3 p vQ s a d)],S,M] fun u Bs=>u = .bool true/\Bs=[[(rg,l3 p vQ s a d)],S,M]:=by
 refine st Tryz.func21 fun w0 => ?_
 refine ga ?_;intro b3
 refine gd [0,4,8,12,16,20,24,28,35,38,42,46,50,54] ?_
 refine gc hs ?_
 rintro _ _ ⟨iI,c1,E,rfl,hE,rfl⟩
 refine gd [0,4,8,12,16,20,24,28,35,38,42,46,50,54] ?_
 refine gc hd ?_
 rintro _ _ ⟨ad2,c2,rfl,hR,rfl⟩
 refine go ?_
 rw [show decide (bs=bs)=true from decide_eq_true rfl]
 refine gz ?_
 exact fin ⟨by simp,rfl⟩ aa
theorem EU (PE:Value->Chunk->Prop)(hs:Ct 62 [ptr s,.int .i64 k,.int .u64 nt] [S] fun u Bs=>∃v E,u = .tuple #[v,.int .i64 e]/\PE v E/\Bs=[E,S])
  (hd:Ct 63 [ptr a,.int .i64 k,.int .u64 nt] [M] fun u Bs=>∃v E,u = .tuple #[v,.int .i64 e]/\PE v E/\Bs=[E,M])
  (hq:∀v1 E1 v2 E2,PE v1 E1->PE v2 E2->Ct 64 [v1,v2] [E1,E2] fun u Bs=>u = .bool true/\Bs=[E1,E2]) :
  Ct 21 [ptr rg,nM 6 k z x y nt b] [[(rg,l3 p vQ s a d)],S,M] fun u Bs=>u = .bool true/\Bs=[[(rg,l3 p vQ s a d)],S,M]:=by
 refine st Tryz.func21 fun w0 => ?_
 refine ga ?_;intro b3
 refine gd [0,4,8,12,16,20,24,28,35,38,42,46,50,54] ?_
 refine gc hs ?_
 rintro _ _ ⟨v1,E1,rfl,h1,rfl⟩
 refine gd [0,4,8,12,16,20,24,28,35,38,42,46,50,54] ?_
 refine gc hd ?_
 rintro _ _ ⟨v2,E2,rfl,h2,rfl⟩
 refine gc (hq v1 E1 v2 E2 h1 h2) ?_
 rintro _ _ ⟨rfl,rfl⟩
 refine gz ?_
 exact fin ⟨by simp,rfl⟩ aa
theorem Vk (o:Int)(h4:o≠4)(h5:o≠5)(h6:o≠6)(h11:o≠11) :
  Ct 21 [ptr rg,nM o k z x y nt b] [] fun u Bs=>u = .bool true/\Bs=[]:=by
 refine st Tryz.func21 fun w0 => ?_
 refine ga ?_;intro b3
 refine gz ?_
 exact fin ⟨rfl,rfl⟩ aa
end
section
variable (rg p s a d:Nat)(vQ:Value)(S M:Chunk)(k z x y e e1 e2:Int)(nt:Nat)(b:Value)
theorem I9 (N:Nat)(hN:N<=65536)(bs:List UInt8)(cV:bs.length=N)(hs:Ct 30 [ptr s,.int .i64 k,.int .i64 x,.int .i64 y] [S] fun u Bs=>∃ad c E,u = .tuple #[.slice ad N c,.int .i64 e]/\az E 5 1 (.slice ad N c) N (ak bs)/\Bs=[E,S])
  (hd:Ct 60 [ptr a,.int .i64 k,.int .i64 x,.int .i64 y] [M] fun u Bs=>∃ad c,u = .tuple #[.slice ad N c,.int .i64 e]/\Rd M 1 (.slice ad N c) N (ak bs)/\Bs=[M]) :
  Ct 21 [ptr rg,nM 4 k z x y nt b] [[(rg,l3 p vQ s a d)],S,M] fun u Bs=>u = .bool true/\Bs=[[(rg,l3 p vQ s a d)],S,M]:=by
 refine st Tryz.func21 fun w0 => ?_
 refine ga ?_;intro b3
 refine gd [0,4,8,12,16,20,24,28,32,36,43,46,50,54,58,62] ?_
 refine gc hs ?_
 rintro _ _ ⟨iI,c1,E,rfl,hE,rfl⟩
 have hEr:=hE.rd
 refine gd [0,4,8,12,16,20,24,28,32,36,43,46,50,54,58,62] ?_
 refine gc hd ?_
 rintro _ _ ⟨ad2,c2,rfl,hR,rfl⟩
 refine go ?_
 rw [show decide (bs=bs)=true from decide_eq_true rfl]
 obtain ⟨g1,g2,⟨hv,h3,rfl⟩ | ⟨g,q1,r,hv,rfl,h3,h4,h5⟩⟩:=hE
 ·cases hv
  refine gl [0,3,5,6,7,8,9] (fun i:Nat=>[(10,.int .i64 i)]) (fun _=>[]) (fun i=>i=0) (fun _=>0) 0 rfl ?_
  rintro i rfl
  refine gm ?_;intro b76
  refine gp ?_;intro rf c5 E5 hE5
  refine gz ?_
  exact fin ⟨by simp,rfl⟩ aa
 ·cases hv
  refine gl [0,3,5,6,7,8,9] (fun ((i,_):Nat×List Value)=>[(10,.int .i64 i)]) (fun (i,pre)=>[[(g,av (pre++((ak bs).drop i++r)) 5)]]) (fun (i,pre)=>i<=N/\pre.length=i/\∀u∈pre,u.oneCell'=true) (fun (i,_)=>N - i) (0,[]) ⟨by omega,rfl,by simp⟩ ?_
  rintro ⟨i,pre⟩ ⟨hi,sK,tt⟩
  refine gi ?_ ?_ <;> intro bh
  ·have bo:i<bs.length:=by omega
   have OD:(ak bs).drop i = .int .u8 (bs[i].toNat:Int) :: (ak bs).drop (i+1):=by
    rw [List.drop_eq_getElem_cons (by rw [ai];omega)]
    congr 1
    simp [ak]
   rw [OD]
   have bV:(pre++(.int .u8 (bs[i].toNat:Int) :: (ak bs).drop (i+1)++r))[i]? = some (.int .u8 (bs[i].toNat:Int)):=by
    rw [List.getElem?_append_right oZ,sK,Nat.sub_self];rfl
   have eQ:∀v,(pre++(.int .u8 (bs[i].toNat:Int) :: (ak bs).drop (i+1)++r)).set i v=(pre++[v])++((ak bs).drop (i+1)++r):=fun v=>by
    rw [List.set_append_right _ _ oZ,sK,Nat.sub_self,List.append_assoc];rfl
   refine go ?_
   rw [eQ]
   refine gn ?_
   exact ⟨(i+1,pre++[.int .u8 (IntKind.u8.wrap ((bs[i].toNat:Int)+1))]),⟨by omega,by simp [sK],fun u hu=>by
    rcases List.mem_append.1 hu with hu | hu
    ·exact tt u hu
    ·rw [List.mem_singleton.1 hu];rfl⟩,by simp only;omega,aq,_,aa⟩
  ·obtain rfl:i=N:=by omega
   have hE2:az [(g,av (pre++((ak bs).drop i++r)) 5)] 5 1 (.slice (some ⟨g,0,none⟩) i c1) i pre:=by
    have e:(ak bs).drop i=[]:=List.drop_eq_nil_of_le (by rw [ai];omega)
    rw [e,List.nil_append]
    refine ⟨by omega,tt,.inr ⟨g,c1,r,rfl,rfl,h3,h4, ?_⟩⟩
    rw [ai] at h5
    omega
   refine gm ?_;intro b76
   refine gp ?_;intro rf c5 E5 hE5
   refine gz ?_
   exact fin ⟨by simp,rfl⟩ aa
end
end Go.Proofs.YtcfioaeamfappaaGreatDoor
