/-
  Texts put together (19).
-/
import Derived.Test.YtcfioaeamfappaaGreatDoorZTopFull18
namespace Go.Proofs.YtcfioaeamfappaaGreatDoor
open Go.Sl
set_option maxRecDepth 10000
structure Cg (tp:Tp)(pr:Bool)(n q w:Nat):Prop where
 nL:tp.nL
 ok:dE tp pr n w
 n2:n<=2048
 hw:w=tp.leaves.toNat
 qe:bD pr w n / aN pr w 1024 / 4=q
 q10:10<=q
theorem Cg.q2 {tp:Tp}{pr:Bool}{n q w:Nat}(cg:Cg tp pr n q w):q - 10<=100000:=by
 have h1:=iA pr cg.ok.hw ⟨cg.ok.hn.1,cg.n2⟩
 have h2:=cg.qe
 have h3:bD pr w n / aN pr w 1024 / 4<=10240:=Nat.le_trans (Nat.div_le_self _ _) (Nat.le_trans (Nat.div_le_self _ _) h1.2)
 omega
structure Vl (T:TypeId)(fr:Nat×Nat)(tp:Tp)(pr:Bool)(n q w i:Nat)(r:Rg)(qs:List Nat)(ls:List (Option Lv))(R:Rk)(no:Nat)(u:Ub)(all:List (Int×Ob))(od:List (Int×List Pt))(x:Rm)(lM lD:List au)(GM SM GD SD:List UInt8)(pm:List dv)(cs:List (Int×Ob))(mo:Ob)(ring:Nat->Option Ub)(S M Dn Q:Chunk):Prop where
 vq:∃ad c,r.vQ = .slice ad w c/\Rd Q 1 (.slice ad w c) w (qs.map ptr)
 lo:j7 qs ls
 ql:qs.length=w
 ll:ls.length=w
 jB:qx tp pr n ls.length q R no u all od x lM lD GM SD pm cs mo ring
 st:AL T fr r.p qs tp pr n ls r.s R no u.txg u.note all od x S
 dm:EM r.a lM u.txg u.note (q - 10) GM SM M
 dd:EM r.d lD u.txg u.note (q - 10) GD SD Dn
 no:1<=no/\no<=1+22528*i
 tx:u.txg<=1+i
 ws:R.ws.length<=112640*i
def Inv (T:TypeId)(fr:Nat×Nat)(tp:Tp)(pr:Bool)(n q w i:Nat)(r:Rg)(X:Chunk):Prop:=∃qs ls R no u all od x lM lD GM SM GD SD pm cs mo ring S M Dn Q,Vl T fr tp pr n q w i r qs ls R no u all od x lM lD GM SM GD SD pm cs mo ring S M Dn Q/\X=S++(M++(Dn++Q))
def Z9 (T:TypeId)(fr:Nat×Nat)(tp:Tp)(pr:Bool)(n q w i:Nat)(r:Rg)(X:Chunk):Prop:=∃qs ls R no u all od x lM lD GM SM GD SD pm cs mo ring S M Dn Q,Vl T fr tp pr n q w i r qs ls R no u all od x lM lD GM SM GD SD pm cs mo ring S M Dn Q/\lM.map au.nv=lD.map au.nv/\X=S++(M++(Dn++Q))
theorem Z9.inv {T:TypeId}{fr:Nat×Nat}{tp:Tp}{pr:Bool}{n q w i:Nat}{r:Rg}{X:Chunk}(h:Z9 T fr tp pr n q w i r X):Inv T fr tp pr n q w i r X:=by
 obtain ⟨qs,ls,R,no,u,all,od,rm,lM,lD,GM,SM,GD,SD,pm,cs,mo,ring,S,M,Dn,Q,h, -,rfl⟩:=h
 exact ⟨qs,ls,R,no,u,all,od,rm,lM,lD,GM,SM,GD,SD,pm,cs,mo,ring,S,M,Dn,Q,h,rfl⟩
section
variable {g:FuncId}{args:List Value}{rc S M A Z:Chunk}{PS PM Iv:Chunk->Prop}
theorem wQ (c:Ct g args [rc,S,M,A] fun u Bs=>u = .bool true/\∃S' M',PS S'/\PM M'/\Bs=[rc,S',M',A])(k:∀S' M',PS S'->PM M'->Iv (S'++(M'++Z))):Ct g args [rc,S++(M++Z),A] fun u Bs=>u = .bool true/\∃X',Iv X'/\Bs=[rc,X',A]:=by
 refine c.on (Rs:=Z) bQ ?_
 rintro u Bs ⟨hu,S',M',h1,h2,rfl⟩
 exact ⟨_,[],⟨hu,_,k _ _ h1 h2,rfl⟩,bQ⟩
theorem eA (c:Ct g args [rc,S,M] fun u Bs=>u = .bool true/\∃S' M',PS S'/\PM M'/\Bs=[rc,S',M'])(k:∀S' M',PS S'->PM M'->Iv (S'++(M'++Z))):Ct g args [rc,S++(M++Z),A] fun u Bs=>u = .bool true/\∃X',Iv X'/\Bs=[rc,X',A]:=by
 refine c.on (Rs:=Z++A) bQ ?_
 rintro u Bs ⟨hu,S',M',h1,h2,rfl⟩
 exact ⟨_,[],⟨hu,_,k _ _ h1 h2,rfl⟩,bQ⟩
theorem AT (c:Ct g args [rc,S,M] fun u Bs=>u = .bool true/\Bs=[rc,S,M]):Ct g args [rc,S++(M++Z)] fun u Bs=>u = .bool true/\Bs=[rc,S++(M++Z)]:=by
 refine c.on (Rs:=Z) bQ ?_
 rintro u Bs ⟨hu,rfl⟩
 exact ⟨_,[],⟨hu,rfl⟩,bQ⟩
end
section
variable {T:TypeId}{fr:Nat×Nat}{tp:Tp}{pr:Bool}{n q w i:Nat}(cg:Cg tp pr n q w){r:Rg}{qs:List Nat}{ls:List (Option Lv)}{R:Rk}{no:Nat}{u:Ub}{all:List (Int×Ob)}{od:List (Int×List Pt)}{rm:Rm}{lM lD:List au}{GM SM GD SD:List UInt8}{pm:List dv}{cs:List (Int×Ob)}{mo:Ob}{ring:Nat->Option Ub}{S M Dn Q:Chunk}
 (h:Vl T fr tp pr n q w i r qs ls R no u all od rm lM lD GM SM GD SD pm cs mo ring S M Dn Q)
include h
theorem Vl.Ly:Inv T fr tp pr n q w (i+1) r (S++(M++(Dn++Q))):=by
 have h1:=h.no
 have h2:=h.tx
 have h3:=h.ws
 exact ⟨qs,ls,R,no,u,all,od,rm,lM,lD,GM,SM,GD,SD,pm,cs,mo,ring,S,M,Dn,Q,{ h with no:=by omega,tx:=by omega,ws:=by omega },rfl⟩
theorem Vl.chg {EF:List (Int×Ob)}{l':List au}{S' M':Chunk}(hs:AL T fr r.p qs tp pr n ls r.s R no u.txg u.note EF od rm S')(hm:EM r.a l' u.txg u.note (q - 10) GM SM M')(hr:bH pm EF l')(hu:aS l'+10<=q):Inv T fr tp pr n q w (i+1) r (S'++(M'++(Dn++Q))):=by
 have h1:=h.no
 have h2:=h.tx
 have h3:=h.ws
 exact ⟨qs,ls,R,no,u,EF,od,rm,l',lD,GM,SM,GD,SD,pm,cs,mo,ring,S',M',Dn,Q,{ h with jB:=h.jB.ab3 hr hu,st:=hs,dm:=hm,no:=by omega,tx:=by omega,ws:=by omega },rfl⟩
theorem Vl.lw (cg:Cg tp pr n q w):(324<=n/\n<=2048)/\(1<=ls.length/\ls.length<=5)/\(pr=true->3<=ls.length):=⟨⟨cg.ok.hn.1,cg.n2⟩,by rw [h.ll];exact cg.ok.hw,by rw [h.ll];exact cg.ok.hp⟩
theorem Vl.f (cg:Cg tp pr n q w):StF qs tp pr n q ls R pm all lM:=by
 obtain ⟨h1,h2,h3⟩:=h.lw cg
 exact ⟨by rw [h.ll];exact cg.ok,cg.n2,h.lo.ok h.jB.dk.qt.sz,h.lo.all,h.jB.dk.qt.on,h.jB.rel,fun o N ho=>QO h.lo.i h1.1 h2 h3 (fun i hi=>(h.jB.dk.qt.sz i hi).2) h.jB.dk.po ho,by rw [h.ll];exact cg.qe⟩
include cg
theorem Q6 (rg:Nat)(k z x y:Int)(nt:Nat)(m:Nat)(hm:m<=1048576)(bs:List UInt8)(cV:bs.length=m)(gf:Option Addr)(cb:Nat)(A:Chunk)(hA:Rd A 1 (.slice gf m cb) m (ak bs))(G0:m<=cb) :
  Ct 20 [ptr rg,nM 0 k z x y nt (.slice gf m cb)] [Rg.ch rg r,S++(M++(Dn++Q)),A] fun u Bs=>u = .bool true/\∃X',Inv T fr tp pr n q w (i+1) r X'/\Bs=[Rg.ch rg r,X',A]:=by
 have f:=h.f cg
 have hq:=cg.q2
 have aQ:=h.jB.rel.dl
 by_cases hb:¬(1<=k/\k<=112)\/x<0\/65536<x\/65536 - x<m
 ·refine wQ (wP rg r.p r.s r.a r.d r.vQ S M A k z x y 1 nt (fun S'=>S'=S) (fun M'=>M'=M) bs m cV gf cb hA hm (fun B' adc cc hB=>AM h.st k x adc m cc B' hb) (AQ k x gf m cb A hb)) ?_
  rintro _ _ rfl rfl
  exact h.Ly
 obtain ⟨k,rfl⟩:∃j:Nat,k=j:=⟨k.toNat,by omega⟩
 obtain ⟨x,rfl⟩:∃j:Nat,x=j:=⟨x.toNat,by omega⟩
 have hk:1<=k/\k<=112:=by omega
 have hx:x+m<=65536:=by omega
 cases hf:cy lM k (max (kP lM k).b.length (x+m)) (q - 10) with
 | false =>
  refine wQ (wP rg r.p r.s r.a r.d r.vQ S M A k z x y 3 nt (fun S'=>S'=S) (fun M'=>M'=M) bs m cV gf cb hA hm (fun B' adc cc hB=>xF h.st f k hk x m hx adc cc B' hf) (xH h.dm aQ hq k hk x m hx A gf cb bs cV hA G0 hf)) ?_
  rintro _ _ rfl rfl
  exact h.Ly
 | true =>
  refine wQ (wP rg r.p r.s r.a r.d r.vQ S M A k z x y 0 nt _ _ bs m cV gf cb hA hm (fun B' adc cc hB=>QY h.st f k hk x m hx B' adc cc bs cV hB.rd (by have:=hB.dL;omega) hf) (Q2 h.dm aQ hq k hk x m hx A gf cb bs cV hA G0 hf)) ?_
  rintro S' M' ⟨cd,h1,h2⟩ ⟨v,h3⟩
  obtain ⟨h4,h5⟩:=f.rel.write hk cV hx (h2.fn (k:=k) (by rw [ic,if_pos rfl])) h1 v h2.kn hf
  exact h.chg h2 h3 h4 (by have:=cg.q10;omega)
theorem Q7 (rg:Nat)(k z x y:Int)(nt:Nat)(b:Value)(A:Chunk) :
  Ct 20 [ptr rg,nM 1 k z x y nt b] [Rg.ch rg r,S++(M++(Dn++Q)),A] fun u Bs=>u = .bool true/\∃X',Inv T fr tp pr n q w (i+1) r X'/\Bs=[Rg.ch rg r,X',A]:=by
 have f:=h.f cg
 have hq:=cg.q2
 have aQ:=h.jB.rel.dl
 have bx:=h.jB.rel.size k
 by_cases hb:y<0\/65536<y
 ·refine eA (mN rg r.p r.s r.a r.d r.vQ S M k z x y 1 nt b (fun S'=>S'=S) (fun M'=>M'=M) (AN h.st k y hb) (qz k y (.inr hb))) ?_
  rintro _ _ rfl rfl
  exact h.Ly
 obtain ⟨y,rfl⟩:∃j:Nat,y=j:=⟨y.toNat,by omega⟩
 have hy:y<=65536:=by omega
 by_cases hk:1<=k/\k<=112
 ·cases hl:aH all k with
  | none =>
   have hd:=h.jB.rel.isN hl
   have hz:=fc hk hl
   have c:=sF h.st k y hy (by rw [hz];decide)
   rw [hz] at c
   refine eA (mN rg r.p r.s r.a r.d r.vQ S M k z x y 130 nt b (fun S'=>S'=S) (fun M'=>M'=M) c (ET h.dm aQ hq k hk y hy hd)) ?_
   rintro _ _ rfl rfl
   exact h.Ly
  | some o =>
   obtain ⟨d,hd, -⟩:=h.jB.rel.Z8 hl
   cases hf:cy lM k y (q - 10) with
   | false =>
    refine eA (mN rg r.p r.s r.a r.d r.vQ S M k z x y 3 nt b (fun S'=>S'=S) (fun M'=>M'=M) (xG h.st f k hk y hy hl hf) (xI h.dm aQ hq k hk y hy hd hf)) ?_
    rintro _ _ rfl rfl
    exact h.Ly
   | true =>
    refine eA (mN rg r.p r.s r.a r.d r.vQ S M k z x y 0 nt b _ _ (QZ h.st f k hk y hy hl hf) (Q4 h.dm aQ hq k hk y hy hd hf)) ?_
    rintro S' M' ⟨cd,h1,h2⟩ ⟨v,h3⟩
    obtain ⟨h4,h5⟩:=f.rel.ab7 hk hl hd hy (h2.fn (k:=k) (by rw [ic,if_pos rfl])) h1 v h2.kn hf
    exact h.chg h2 h3 h4 (by have:=cg.q10;omega)
 ·have hz:=dR (all:=all) hk
  have c:=sF h.st k y hy (by rw [hz];decide)
  rw [hz] at c
  refine eA (mN rg r.p r.s r.a r.d r.vQ S M k z x y 1 nt b (fun S'=>S'=S) (fun M'=>M'=M) c (qz k y (.inl hk))) ?_
  rintro _ _ rfl rfl
  exact h.Ly
theorem Vm (rg:Nat)(k z x y:Int)(nt:Nat)(b:Value)(A:Chunk) :
  Ct 20 [ptr rg,nM 2 k z x y nt b] [Rg.ch rg r,S++(M++(Dn++Q)),A] fun u Bs=>u = .bool true/\∃X',Inv T fr tp pr n q w (i+1) r X'/\Bs=[Rg.ch rg r,X',A]:=by
 have f:=h.f cg
 have hq:=cg.q2
 have aQ:=h.jB.rel.dl
 by_cases hz:1<=z/\z<=112
 ·obtain ⟨z,rfl⟩:∃j:Nat,z=j:=⟨z.toNat,by omega⟩
  have O8:1<=z/\z<=112:=by omega
  by_cases hk:1<=k/\k<=112
  ·cases hl:aH all k with
   | none =>
    have hd:=h.jB.rel.isN hl
    have hs:=fc hk hl
    have c:=wM h.st k z hz (by rw [hs];decide)
    rw [hs] at c
    refine eA (nB rg r.p r.s r.a r.d r.vQ S M k z x y 130 nt b (fun S'=>S'=S) (fun M'=>M'=M) c (Hw h.dm aQ hq k hk z O8 hd)) ?_
    rintro _ _ rfl rfl
    exact h.Ly
   | some o =>
    obtain ⟨d,hd, -, -,hr⟩:=h.jB.rel.Z8 hl
    by_cases jz:k=z
    ·subst jz
     refine eA (nB rg r.p r.s r.a r.d r.vQ S M z z x y 0 nt b (fun S'=>S'=S) (fun M'=>M'=M) (AO h.st z hz hl) (AR h.dm aQ hq z O8 hd)) ?_
     rintro _ _ rfl rfl
     exact h.Ly
    ·cases hf:cy lM z d.b.length (q - 10) with
     | false =>
      refine eA (nB rg r.p r.s r.a r.d r.vQ S M k z x y 3 nt b (fun S'=>S'=S) (fun M'=>M'=M) (AP h.st f k z hk hz jz hl (by rw [hr.size];exact hf)) (AS h.dm aQ hq k hk z O8 jz hd hf)) ?_
      rintro _ _ rfl rfl
      exact h.Ly
     | true =>
      refine eA (nB rg r.p r.s r.a r.d r.vQ S M k z x y 0 nt b _ _ (U6 h.st f k z hk hz jz hl (by rw [hr.size];exact hf)) (Vh h.dm aQ hq k hk z O8 jz hd hf)) ?_
      rintro S' M' ⟨cd,h1,h2⟩ ⟨v,h3⟩
      obtain ⟨h4,h5⟩:=f.rel.fork O8 hl hd (h2.fn (k:=z) (by rw [ic,if_pos rfl])) h1 v h2.kn hf
      exact h.chg h2 h3 h4 (by have:=cg.q10;omega)
  ·have hs:=dR (all:=all) hk
   have c:=wM h.st k z hz (by rw [hs];decide)
   rw [hs] at c
   refine eA (nB rg r.p r.s r.a r.d r.vQ S M k z x y 1 nt b (fun S'=>S'=S) (fun M'=>M'=M) c (sH k z (.inl hk))) ?_
   rintro _ _ rfl rfl
   exact h.Ly
 ·refine eA (nB rg r.p r.s r.a r.d r.vQ S M k z x y 1 nt b (fun S'=>S'=S) (fun M'=>M'=M) (EH h.st k z hz) (sH k z (.inr hz))) ?_
  rintro _ _ rfl rfl
  exact h.Ly
omit cg in
theorem Vn (rg:Nat)(k z x y:Int)(nt:Nat)(b:Value)(A:Chunk) :
  Ct 20 [ptr rg,nM 3 k z x y nt b] [Rg.ch rg r,S++(M++(Dn++Q)),A] fun u Bs=>u = .bool true/\∃X',Inv T fr tp pr n q w (i+1) r X'/\Bs=[Rg.ch rg r,X',A]:=by
 have aQ:=h.jB.rel.dl
 have c:=U4 h.st k
 by_cases hk:1<=k/\k<=112
 ·rcases Vg h.dm aQ k hk with ⟨hd,c2⟩ | ⟨⟨d,hd⟩,c2⟩
  ·have hl:aH all k=none:=by
    rcases h.jB.rel.keys k with ⟨c, -⟩ | ⟨o,d, -,c, -⟩
    ·exact c
    ·rw [hd] at c;cases c
   rw [fc hk hl,if_neg (show ¬((0:Int),(130:Int)).2=0 by decide)] at c
   refine eA (Ay rg r.p r.s r.a r.d r.vQ S M k z x y 130 nt b _ (fun M'=>M'=M) c c2) ?_
   rintro S' _ h1 rfl
   exact h.chg h1 h.dm h.jB.rel h.jB.um
  ·obtain ⟨o,hl⟩:∃o,aH all k=some o:=by
    rcases h.jB.rel.keys k with ⟨-,c⟩ | ⟨o,d,c, -⟩
    ·rw [hd] at c;cases c
    ·exact ⟨o,c⟩
   rw [eL hk hl,if_pos rfl] at c
   refine eA (Ay rg r.p r.s r.a r.d r.vQ S M k z x y 0 nt b _ _ c c2) ?_
   rintro S' M' h1 ⟨j,d',h2,rfl,h3⟩
   exact h.chg h1 h3 (h.jB.rel.del h2) (by have:=yJ lM j;have:=h.jB.um;omega)
 ·rw [dR hk,if_neg (show ¬((0:Int),(1:Int)).2=0 by decide)] at c
  refine eA (Ay rg r.p r.s r.a r.d r.vQ S M k z x y 1 nt b _ (fun M'=>M'=M) c (EN k hk)) ?_
  rintro S' _ h1 rfl
  exact h.chg h1 h.dm h.jB.rel h.jB.um
end
section
variable {T:TypeId}{fr:Nat×Nat}{p:Nat}{qs:List Nat}{tp:Tp}{pr:Bool}{n q:Nat}{ls:List (Option Lv)}{s:Nat}{R:Rk}{no txg note:Nat}{all:List (Int×Ob)}{od:List (Int×List Pt)}{rm:Rm}{S:Chunk}{pm:List dv}{l:List au}
theorem Lz (h:AL T fr p qs tp pr n ls s R no txg note all od rm S)(f:StF qs tp pr n q ls R pm all l)(ha:QF (bD pr ls.length n) (aN pr ls.length 1024) q txg rm pm)(tt:dT pr ls.length n R pm)(UF:∀x,x∈bc od↔∃e∈pm,e.x=x)(Gy:∀e∈od,e.2.length<=200)(mj:pm.length<=q)(hu:aS l+10<=q)(ht:txg+1<=281474976710656)(hw:R.ws.length<=800000000000)(nt:Nat)(Bf:nt<18446744073709551616) :
  Ct 55 [ptr s,.int .u64 nt] [S] fun v Bs=>v = .int .i64 0/\∃S',(∃ks os ds P2 mo fs,CmR pr ls n txg all od ⟨R,rm,[]⟩ ks os ds P2 mo fs/\AL T fr p qs tp pr n ls s (((P2.R.run (iF ls)).run (oA n ls ⟨11,txg+1,nt,mo.root⟩)).run (iF ls)) no (txg+1) nt os ds ((bq (txg+1) P2.x (aN pr ls.length 1024) fs).sync ((txg+1:Nat):Int)) S')/\Bs=[S']:=by
 obtain ⟨t,al,ra,rd,C,V,LA,CA,VA,Ld,CD,VD,Al,hV,hC,hA,hG,hD,hP,hL,rfl⟩:=h
 have hz:=iA pr f.ok.hw ⟨f.ok.hn.1,f.n2⟩
 have h4q:4*q<=bD pr ls.length n / aN pr ls.length 1024:=by have:=f.q;omega
 have RK:bD pr ls.length n / aN pr ls.length 1024<=10240:=Nat.le_trans (Nat.div_le_self _ _) hz.2
 have hn:=Lu f.rel
 rw [hG.keys] at hn
 have sQ:=ha.dl
 have hps:jA qs pr ls n ⟨R,rm,[]⟩ (10+mS all (LA.map (·.1))):=⟨f.on,f.ho,by simp only;omega,by simp only;omega,by simp only [List.length_nil];omega⟩
 have ZC:wx (aN pr ls.length 1024) rm od:=by
  have nC:=QN (od:=od) tt fun x hx=>(UF x).1 hx
  have he:∀x∈bc od,aM (aN pr ls.length 1024) x∈rm.D/\aM (aN pr ls.length 1024) x∉rm.W:=fun x hx=>by
   obtain ⟨e,h1,rfl⟩:=(UF x).1 hx
   exact ha.hd e h1
  exact ⟨nC.top,nC.at_,fun x hx=>(he x hx).1,fun x hx=>(he x hx).2,nC.inj⟩
 have c:=Qi T fr p qs t 11 tp pr n ls no V hV f.ok f.n2 f.hall s al ra rd txg note ⟨R,rm,[]⟩ rfl LA all CA VA hA hG (fun e he=>⟨(f.rel.each e he).1,(f.rel.each e he).2.1⟩) (fun e he=>by
  obtain ⟨-, -,h3,h4,h5⟩:=f.rel.each e he
  rw [WQ]
  exact ⟨h3.ZV tt,h4,h5⟩) Ld od CD VD hD hP Gy (aN pr ls.length 1024) rfl ZC ha.ok nt dZ Bf ht hps C Al hC hL
 refine (Lh s nt t (ptr al) ra rd txg note _ _ _ _ _ _ _ _ _ (fun Bs hB => ?_) c).on (Rs:=[]) bQ ?_
 ·obtain ⟨ks,os,ds,P2,mo,fs, -,r6,r7,LO,LP,C6,VO,C7,VP,C',jI, -, -, -, -, -, -, -,rfl⟩:=hB
  exact ⟨_,_,_,_,_,_,_,_,_,rfl⟩
 ·rintro u Bs ⟨rfl,ks,os,ds,P2,mo,fs,h1,r6,r7,LO,LP,C6,VO,C7,VP,C',jI,k1,k2,k3,k4,k5,k6,k7,rfl⟩
  exact ⟨_,[],⟨rfl,_,⟨ks,os,ds,P2,mo,fs,h1,t,al,r6,r7,C',V,LO,C6,VO,LP,C7,VP,jI,hV,k6,k1,k2,k3,k4,k7,rfl⟩,rfl⟩,bQ⟩
theorem AL.rk (h:AL T fr p qs tp pr n ls s R no txg note all od rm S):R.Ok/\qs.length=R.ds.length:=by
 obtain ⟨t,al,ra,rd,C,V,LA,CA,VA,Ld,CD,VD,Al,hV,hC, -⟩:=h
 exact ⟨hC.ok,hC.len⟩
theorem Q8 {rg d a:Nat}{vQ:Value}{lM lD:List au}{room:Nat}{GM SM GD SD:List UInt8}{M Dn:Chunk}(h:EM a lM txg note room GM SM M)(h':EM d lD txg note room GD SD Dn) :
  Ct 58 [ptr rg] [[(rg,l3 p vQ s a d)],M,Dn] fun _ Bs=>∃M' D',EM a lM txg note room GM GM M'/\EM d lD txg note room GD GM D'/\Bs=[[(rg,l3 p vQ s a d)],M',D']:=by
 obtain ⟨ad,c,D,O,adG,cG,DG,bG,cS,DS,h1,h2,h3,h4,h5,rfl⟩:=h
 obtain ⟨ad2,c2,D2,O2,ab9,cG2,DG2,aeT,cS2,DS2,g1,g2,g3,g4,g5,rfl⟩:=h'
 refine (K7 rg p s a d vQ (.slice ad lM.length c) (.slice ad2 lD.length c2) txg note room txg note room (.slice bG 22528 cS) (.slice ab9 22528 cG2) (.slice aeT 22528 cS2) adG cG DG GM h4.rd (P3 a (.slice ad lM.length c) txg note room GM adG cG DG h4 (.slice bG 22528 cS))).on (Rs:=D++(O++(DS++(D2++(O2++(DG2++DS2)))))) bQ ?_
 rintro u Bs ⟨fU,cT,DT,Wn,cU,DU,k1,k2,rfl⟩
 exact ⟨_,DS++DS2,⟨_,_,⟨ad,c,D,O,adG,cG,DG,fU,cT,DT,h1,h2,h3,h4,k1,rfl⟩,⟨ad2,c2,D2,O2,ab9,cG2,DG2,Wn,cU,DU,g1,g2,g3,g4,k2,rfl⟩,rfl⟩,bQ⟩
end
section
variable {T:TypeId}{fr:Nat×Nat}{tp:Tp}{pr:Bool}{n q w i:Nat}(cg:Cg tp pr n q w)(hi:i<=1100000){r:Rg}{qs:List Nat}{ls:List (Option Lv)}{R:Rk}{no:Nat}{u:Ub}{all:List (Int×Ob)}{od:List (Int×List Pt)}{rm:Rm}{lM lD:List au}{GM SM GD SD:List UInt8}{pm:List dv}{cs:List (Int×Ob)}{mo:Ob}{ring:Nat->Option Ub}{S M Dn Q:Chunk}
 (h:Vl T fr tp pr n q w i r qs ls R no u all od rm lM lD GM SM GD SD pm cs mo ring S M Dn Q)
include cg hi h
theorem LB (rg:Nat)(k z x y:Int)(nt:Nat)(Bf:nt<18446744073709551616)(b:Value)(A:Chunk) :
  Ct 20 [ptr rg,nM 7 k z x y nt b] [Rg.ch rg r,S++(M++(Dn++Q)),A] fun u Bs=>u = .bool true/\∃r' X',Z9 T fr tp pr n q w (i+1) r' X'/\Bs=[Rg.ch rg r',X',A]:=by
 have f:=h.f cg
 obtain ⟨hn,hw,hp⟩:=h.lw cg
 have aQ:=h.jB.rel.dl
 have tY:=h.tx
 have Cz:=h.ws
 have eV:=h.no
 have e:aS (lM.map (lJ (u.txg+1)))=aS lM:=wK ..
 have sP:mJ (lM.map (lJ (u.txg+1))):=⟨by rw [List.length_map];exact aQ.jE,fun o ho=>by
  obtain ⟨o',h1,rfl⟩:=List.mem_map.1 ho
  rw [show (lJ (u.txg+1) o').b=o'.b from (dq _ o' 64).2.1];exact aQ.sm o' h1,fun o ho=>by
  obtain ⟨o',h1,rfl⟩:=List.mem_map.1 ho
  rw [show (lJ (u.txg+1) o').no=o'.no from (dq _ o' 64).1];exact aQ.no o' h1⟩
 refine (Lx rg r.p r.s r.a r.d r.vQ S M k z x y nt b _ _ (fun M' d' D'=>∃l',l'.map au.nv=(lM.map (lJ (u.txg+1))).map au.nv/\EM d' l' (u.txg+1) nt (q - 10) GM GM D') (Lw h.dm aQ nt oZ) (fun M' hM=>(Vd hM sP).to fun v Bs ⟨d,l',D',h1,h2,h3,h4⟩=>⟨d,D',h1,⟨l',h2,h3⟩,h4⟩)
  (Lz h.st f h.jB.al h.jB.dk.po h.jB.oe h.jB.ol h.jB.dk.jE h.jB.um oZ oZ nt Bf)).on (Rs:=Dn++(Q++A)) bQ ?_
 rintro v Bs ⟨hv,S',M',d',D',⟨ks,os,ds,P2,QV,fs,h1,h2⟩,h3,⟨l',h4,h5⟩,rfl⟩
 obtain ⟨jV,h6,h7⟩:=h.jB.Ht h.lo.i hn hw hp (note:=nt) oZ Bf h1
 have hk:=h2.rk
 have FW:=qu h.lo.i hk.1 (by rw [<-hk.2,h.ql,h.ll]) ((h7.run _).run _).2
 refine ⟨[Rg.ch rg ⟨r.p,r.vQ,r.s,r.a,d'⟩,S'++(M'++(D'++Q)),A],Dn,⟨hv,⟨r.p,r.vQ,r.s,r.a,d'⟩,_,⟨qs,ls,_,no,_,os,ds,_,lM.map (lJ (u.txg+1)),l',GM,GM,GM,GM,jV,os,QV,_,S',M',D',Q,⟨h.vq,h.lo,h.ql,h.ll,h6.nvD h4,h2,h3,h5,by omega,by simp only;omega,by rw [FW];exact Nat.zero_le _⟩,h4.symm,rfl⟩,rfl⟩,bQ⟩
theorem Vo (rg:Nat)(k z x y:Int)(nt:Nat)(m:Nat)(hm:m<=1048576)(bs:List UInt8)(cV:bs.length=m)(gf:Option Addr)(cb:Nat)(A:Chunk)(hA:Rd A 1 (.slice gf m cb) m (ak bs))(G0:m<=cb) :
  Ct 20 [ptr rg,nM 9 k z x y nt (.slice gf m cb)] [Rg.ch rg r,S++(M++(Dn++Q)),A] fun u Bs=>u = .bool true/\∃X',Inv T fr tp pr n q w (i+1) r X'/\Bs=[Rg.ch rg r,X',A]:=by
 have f:=h.f cg
 obtain ⟨hn,hw,hp⟩:=h.lw cg
 have Cz:=h.ws
 have eV:=h.no
 have tY:=h.tx
 by_cases hx:0<=x/\x+m<=22528
 ·obtain ⟨x,rfl⟩:∃j:Nat,x=j:=⟨x.toNat,by omega⟩
  have yi:x+m<=22528:=by omega
  obtain ⟨g1,g2,g3,g4,g5⟩:=h.jB.aeS h.lo.i hn hw hp cV yi ⟨eV.1,by omega⟩
  refine wQ (I7 rg r.p r.s r.a r.d r.vQ S M A k z x y 0 nt (.slice gf m cb) _ _ (U8 h.st f x m bs cV yi ⟨eV.1,by omega⟩ oZ A gf cb hA G0 g2) (Vb h.dm x bs m cV yi h.jB.dk.lg.len A gf cb hA)) ?_
  intro S' M' h1 h2
  exact ⟨qs,ls,_,_,u,all,od,rm,lM,lD,sA GM x bs,SM,GD,SD,pm,cs,mo,ring,S',M',Dn,Q,⟨h.vq,h.lo,h.ql,h.ll,g1,h1,h2,h.dd,by omega,by omega,by omega⟩,rfl⟩
 ·refine wQ (I7 rg r.p r.s r.a r.d r.vQ S M A k z x y 1 nt (.slice gf m cb) (fun S'=>S'=S) (fun M'=>M'=M) (EK h.st x gf m cb A oZ hx) (EO h.dm x gf m cb A oZ)) ?_
  rintro _ _ rfl rfl
  exact h.Ly
omit hi in
theorem Q9 (rg:Nat)(k z x y:Int)(nt:Nat)(b:Value)(A:Chunk) :
  Ct 20 [ptr rg,nM 10 k z x y nt b] [Rg.ch rg r,S++(M++(Dn++Q)),A] fun u Bs=>u = .bool true/\∃X',Inv T fr tp pr n q w (i+1) r X'/\Bs=[Rg.ch rg r,X',A]:=by
 have f:=h.f cg
 obtain ⟨hn,hw,hp⟩:=h.lw cg
 have eV:=h.no
 have tY:=h.tx
 have g:=h.jB.flush h.lo.i hn hw hp
 refine (Q5 rg r.p r.s r.a r.d r.vQ S M Dn k z x y nt b _ _ _ (Q8 h.dm h.dd) (U9 h.st f (f.on.run _))).on (Rs:=Q++A) bQ ?_
 rintro v Bs ⟨hv,S',M',D',h1,h2,h3,rfl⟩
 have hk:=h1.rk
 have FW:=qu h.lo.i hk.1 (by rw [<-hk.2,h.ql,h.ll]) f.on.2
 exact ⟨[Rg.ch rg r,S'++(M'++(D'++Q)),A],[],⟨hv,_,⟨qs,ls,_,no,u,all,od,rm,lM,lD,GM,GM,GD,GM,pm,cs,mo,ring,S',M',D',Q,⟨h.vq,h.lo,h.ql,h.ll,g,h1,h2,h3,by omega,by omega,by rw [FW];exact Nat.zero_le _⟩,rfl⟩,rfl⟩,bQ⟩
end
section
variable {T:TypeId}{fr:Nat×Nat}{tp:Tp}{pr:Bool}{n q w i:Nat}(cg:Cg tp pr n q w){r:Rg}{qs:List Nat}{ls:List (Option Lv)}{R:Rk}{no:Nat}{u:Ub}{all:List (Int×Ob)}{od:List (Int×List Pt)}{rm:Rm}{lM lD:List au}{GM SM GD SD:List UInt8}{pm:List dv}{cs:List (Int×Ob)}{mo:Ob}{ring:Nat->Option Ub}{S M Dn Q:Chunk}
 (h:Vl T fr tp pr n q w i r qs ls R no u all od rm lM lD GM SM GD SD pm cs mo ring S M Dn Q)
include cg h
omit cg in
theorem Vp (rg:Nat)(k z x y:Int)(nt:Nat)(b:Value):Ct 21 [ptr rg,nM 5 k z x y nt b] [Rg.ch rg r,S,M] fun u Bs=>u = .bool true/\Bs=[Rg.ch rg r,S,M]:=by
 have c:=U5 h.st k
 rw [h.jB.rel.size] at c
 exact Vj rg r.p r.s r.a r.d r.vQ S M k z x y _ _ nt b c (Ve h.dm h.jB.rel.dl k)
theorem Vq (rg:Nat)(k z x y:Int)(hx:x<9223372036854775808/\y<9223372036854775808)(nt:Nat)(b:Value):Ct 21 [ptr rg,nM 4 k z x y nt b] [Rg.ch rg r,S,M] fun u Bs=>u = .bool true/\Bs=[Rg.ch rg r,S,M]:=by
 have f:=h.f cg
 have aQ:=h.jB.rel.dl
 have bad:∀e:Int,Ct 30 [ptr r.s,.int .i64 k,.int .i64 x,.int .i64 y] [S] (fun u Bs=>u = .tuple #[.slice none 0 0,.int .i64 e]/\Bs=[S])->Ct 60 [ptr r.a,.int .i64 k,.int .i64 x,.int .i64 y] [M] (fun u Bs=>u = .tuple #[.slice none 0 0,.int .i64 e]/\Bs=[M])->Ct 21 [ptr rg,nM 4 k z x y nt b] [Rg.ch rg r,S,M] fun u Bs=>u = .bool true/\Bs=[Rg.ch rg r,S,M]:=fun e h1 h2=>by
  refine I9 rg r.p r.s r.a r.d r.vQ S M k z x y e nt b 0 oZ [] rfl (h1.on (Rs:=[]) bQ ?_) (h2.to ?_)
  ·rintro v Bs ⟨rfl,rfl⟩
   exact ⟨[[],S],[],⟨none,0,[],rfl,az.nil _ _,rfl⟩,bQ⟩
  ·rintro v Bs ⟨rfl,rfl⟩
   exact ⟨none,0,rfl,Rd.nil _ _,rfl⟩
 by_cases hb:x<0\/y<0
 ·exact bad 1 (EI h.st k x y hb) (sI k x y (.inr hb))
 obtain ⟨x,rfl⟩:∃j:Nat,x=j:=⟨x.toNat,by omega⟩
 obtain ⟨y,rfl⟩:∃j:Nat,y=j:=⟨y.toNat,by omega⟩
 by_cases hk:1<=k/\k<=112
 ·cases hl:ey lM k with
  | none =>
   have hz:=p6 hk hl
   rw [<-h.jB.rel.size] at hz
   have c:=wO h.st k x y (by rw [hz];decide)
   rw [hz] at c
   exact bad 130 c (Hv h.dm aQ k hk x y hl)
  | some d =>
   have AY:=aQ.sm d (fg hl).1
   refine I9 rg r.p r.s r.a r.d r.vQ S M k z x y 0 nt b (dB d.b.length x y) (by unfold dB;omega) ((d.b.drop x).take y) (by unfold dB;rw [List.length_take,List.length_drop]) (U7 h.st f k hk x y oZ hl) (Vf h.dm aQ k hk x y oZ hl)
 ·have hz:=dR (all:=all) hk
  have c:=wO h.st k x y (by rw [hz];decide)
  rw [hz] at c
  exact bad 1 c (sI k x y (.inl hk))
theorem Ra (rg:Nat)(k z x y:Int)(nt:Nat)(b:Value):Ct 21 [ptr rg,nM 6 k z x y nt b] [Rg.ch rg r,S,M] fun u Bs=>u = .bool true/\Bs=[Rg.ch rg r,S,M]:=by
 have f:=h.f cg
 have aQ:=h.jB.rel.dl
 have e:=h.jB.rel.size k
 by_cases hb:(iD lM k).2=0
 ·have hk:1<=k/\k<=112:=Classical.byContradiction fun c=>by rw [rH c] at hb;cases hb
  cases hl:ey lM k with
  | none=>rw [p6 hk hl] at hb;cases hb
  | some d =>
   refine EU rg r.p r.s r.a r.d r.vQ S M k z x y 0 nt b (fun v E=>∃ad c,v = .slice ad (l7 d.b.length 0 (aV d nt) []).length c/\Rd E 2 v (l7 d.b.length 0 (aV d nt) []).length ((l7 d.b.length 0 (aV d nt) []).flatMap Sp.lay)) ((Q0 h.st f k hk nt hl).to ?_) ((Q1 h.dm aQ k hk nt hl).to ?_) ?_
   ·rintro v Bs ⟨ad,c,E,rfl,h2,rfl⟩
    exact ⟨_,E,rfl,⟨ad,c,rfl,h2.rd⟩,rfl⟩
   ·rintro v Bs ⟨ad,c,E,rfl,h2,rfl⟩
    exact ⟨_,E,rfl,⟨ad,c,rfl,h2.rd⟩,rfl⟩
   ·rintro _ E1 _ E2 ⟨iI,c1,rfl,h1⟩ ⟨ad2,c2,rfl,h2⟩
    exact Iz _ _ rfl E1 E2 iI ad2 c1 c2 h1 h2
 ·have c1:=EJ h.st k nt (by rw [e];exact hb)
  rw [e] at c1
  refine EU rg r.p r.s r.a r.d r.vQ S M k z x y (iD lM k).2 nt b (fun v E=>v = .slice none 0 0/\E=[]) (c1.on (Rs:=[]) bQ ?_) ((ES h.dm aQ k nt hb).on (Rs:=[]) bQ ?_) ?_
  ·rintro v Bs ⟨rfl,rfl⟩
   exact ⟨[[],S],[],⟨_,[],rfl,⟨rfl,rfl⟩,rfl⟩,bQ⟩
  ·rintro v Bs ⟨rfl,rfl⟩
   exact ⟨[[],M],[],⟨_,[],rfl,⟨rfl,rfl⟩,rfl⟩,bQ⟩
  ·rintro _ E1 _ E2 ⟨rfl,rfl⟩ ⟨rfl,rfl⟩
   exact Iz [] _ rfl [] [] none none 0 0 (Rd.nil _ _) (Rd.nil _ _)
theorem Vr (rg:Nat)(k z x y:Int)(hy:y<9223372036854775808)(nt:Nat)(b:Value):Ct 21 [ptr rg,nM 11 k z x y nt b] [Rg.ch rg r,S,M] fun u Bs=>u = .bool true/\Bs=[Rg.ch rg r,S,M]:=by
 have f:=h.f cg
 obtain ⟨hn,hw,hp⟩:=h.lw cg
 by_cases hx:0<=x/\0<=y/\x+y<=22528
 ·obtain ⟨x,rfl⟩:∃j:Nat,x=j:=⟨x.toNat,by omega⟩
  obtain ⟨y,rfl⟩:∃j:Nat,y=j:=⟨y.toNat,by omega⟩
  exact I8 rg r.p r.s r.a r.d r.vQ S M k z x y 0 nt b y ((GM.drop x).take y) (Va h.st f x y oZ GM (ez.all h.lo.i h.jB.dk.lg hw.1 f.on.2)) (Vc h.dm x y oZ)
 ·refine I8 rg r.p r.s r.a r.d r.vQ S M k z x y 1 nt b 0 [] ((EL h.st x y oZ hx).on (Rs:=[]) bQ ?_) ((ER h.dm x y oZ).to ?_)
  ·rintro v Bs ⟨rfl,rfl⟩
   exact ⟨[[],S],[],⟨none,0,[],rfl,Rd.nil _ _,rfl⟩,bQ⟩
  ·rintro v Bs ⟨rfl,rfl⟩
   exact ⟨none,0,rfl,Rd.nil _ _,rfl⟩
end
theorem Vs {T:TypeId}{fr:Nat×Nat}{tp:Tp}{pr:Bool}{n q w i:Nat}(cg:Cg tp pr n q w){r:Rg}{X:Chunk}(h:Inv T fr tp pr n q w i r X)(rg:Nat)(o k z x y:Int)(hx:x<9223372036854775808/\y<9223372036854775808)(nt:Nat)(b:Value) :
  Ct 21 [ptr rg,nM o k z x y nt b] [Rg.ch rg r,X] fun u Bs=>u = .bool true/\Bs=[Rg.ch rg r,X]:=by
 obtain ⟨qs,ls,R,no,u,all,od,rm,lM,lD,GM,SM,GD,SD,pm,cs,mo,ring,S,M,Dn,Q,h,rfl⟩:=h
 by_cases h4:o=4
 ·subst h4;exact AT (Vq cg h rg k z x y hx nt b)
 by_cases h5:o=5
 ·subst h5;exact AT (Vp h rg k z x y nt b)
 by_cases h6:o=6
 ·subst h6;exact AT (Ra cg h rg k z x y nt b)
 by_cases h11:o=11
 ·subst h11;exact AT (Vr cg h rg k z x y hx.2 nt b)
 exact (Vk rg k z x y nt b o h4 h5 h6 h11).cZ (Rg.ch rg r++(S++(M++(Dn++Q)))) bQ ⟨rfl,rfl⟩
def aeU (T:TypeId)(fr:Nat×Nat)(p:Nat)(qs:List Nat)(tp:Tp)(pr:Bool)(n q w:Nat)(u:Ub)(l:List au)(G:List UInt8)(pm:List dv)(no0 s:Nat)(b0 b1 b2 b3 b4 b5 b6 b7:Chunk):Prop :=
 ∃ls R no all od rm cs mo ring,j7 qs ls/\ls.length=w/\qx tp pr n ls.length q R no u all od rm l l G G pm cs mo ring/\AL T fr p qs tp pr n ls s R no u.txg u.note all od rm (b0++(gK T fr++(b1++(b2++(b3++(b4++(b5++(b6++b7))))))))/\(1<=no/\no<=no0+22528)/\R.ws=[]
section
variable {T:TypeId}{fr:Nat×Nat}{p:Nat}{qs:List Nat}{tp:Tp}{pr:Bool}{n q w:Nat}(cg:Cg tp pr n q w)(Du:qs.length=w){R:Rk}{no:Nat}{u:Ub}{l:List au}{G:List UInt8}{pm:List dv}{cs:List (Int×Ob)}{mo:Ob}{ring:Nat->Option Ub}{C:Chunk}
 (hD:Dsk tp pr n w q R no u l G pm cs mo ring) (hC:br p qs R C)
include cg Du hD hC
theorem Rb (Q:Chunk)(lC:Option Addr)(cq:Nat)(hQ:Rd Q 1 (.slice lC w cq) w (qs.map ptr)):Ct 23 [.slice lC w cq] [gK T fr,C,Q] fun v Bs=>∃t V,v = .tuple #[ptr t,.int .i64 0]/\(∃ls,j7 qs ls/\ls.length=w/\jd t 11 tp pr n ls (pU R ls 1 w) V)/\Bs=[V,gK T fr,C,Q]:=by
 refine (KB T fr p qs 11 tp pr n w cg.ok Du R C hC hD.qt.on.2 hD.qt.sz (fun k hk=>QU cg.nL (by rw [<-cg.hw];exact hk)) hD.qt.lb Q lC cq hQ (fun _ _ j=>ring j) hD.qt.rg _ hD.rg.jE.1 (fun _ _ j v h=>hD.rg.jE.2 j v h) (fun i _ _=>⟨u,0,u.txg % 8,by omega,Nat.mod_lt _ oZ,hD.rg.top,hD.rg.pl⟩)).to ?_
 rintro v Bs ⟨t,V,ls,h1,h2,h3,h4,h5⟩
 exact ⟨t,V,h1,⟨ls,h3,h2,h4⟩,h5⟩
theorem aaa (eV:1<=no/\no+22528<=281474976710656)(Cz:R.ws.length<=700000000000)(t:Nat)(V:Chunk)(hV:∃ls,j7 qs ls/\ls.length=w/\jd t 11 tp pr n ls (pU R ls 1 w) V) :
  Ct 24 [ptr t] [gK T fr,C,V] fun v Bs=>∃s b0 b1 b2 b3 b4 b5 b6 b7,v = .tuple #[ptr s,.int .i64 0]/\aeU T fr p qs tp pr n q w u l G pm no s b0 b1 b2 b3 b4 b5 b6 b7/\Bs=[b0,gK T fr,b1,b2,b3,b4,b5,b6,b7]:=by
 obtain ⟨ls,Bi,rfl,hV⟩:=hV
 have hn:324<=n/\n<=2048:=⟨cg.ok.hn.1,cg.n2⟩
 have hw:=cg.ok.hw
 obtain ⟨k1,k2,k3,k4,k5,k6,k7,k8⟩:=hD.opens Bi.i hn hw cg.ok.hp eV _ rfl
 have r1:=k2.root
 have r2:=k2.Ql
 have r3:=k2.JE
 have r4:=k2.op
 have one:=hD.rg.one
 rw [<-hD.rt] at r1 r2 r3 r4 k8
 refine (UD T fr p qs t 11 tp pr n ls (pU R ls 1 ls.length) V hV cg.ok cg.n2 R C hC (Bi.ok hD.qt.sz) Bi.all hD.qt.on (fun _ _ j=>ring j) (fun i x hx=>by
   obtain ⟨e,hi⟩:=Bi.i.at hx
   rw [e];exact hD.qt.rg i hi) _ hD.rg.jE.1 (fun _ _ j v h=>hD.rg.jE.2 j v h) u (fun x hx=>hD.rg.aeR hw.1 hx) oZ (ff pm) r1 (jW pm) r2 (slotsOf cs) (eI cs) k2.so r3 k2.ob (aN pr ls.length 1024) rfl r4 hD.ub.1 hD.ub.2 hD.rg.pl ⟨k1.1,by omega⟩ oZ (QT hC.ok ls) k3 (Bi.ok fun k hk=>⟨(k4 k).2.2 (hD.qt.sz k hk).1,by rw [(k4 k).1];exact (hD.qt.sz k hk).2⟩) oZ).to ?_
 rintro v Bs ⟨s,al,ra,rd,ks,rfl,h1,h2,C',V',LA,CA,VA,Ld,CD,VD,Al,a1,a2,a3,a4,a5,a6,a7,rfl⟩
 have FW:(Qn n ls (pU R ls 1 ls.length) u R).ws=[]:=qu Bi.i a1.ok (a1.len.symm.trans Du) (k3.run _).2
 exact ⟨s,_,C',V',CA,VA,CD,VD,Al,rfl,⟨ls,_,_,_,_,⟨ks,[]⟩,_,_,ring,Bi,rfl,k8 ks h1 h2,⟨t,al,ra,rd,C',V',LA,CA,VA,Ld,CD,VD,Al,a2,a1,a3,a4,a5,a6,a7,rfl⟩,⟨by omega,by omega⟩,FW⟩,rfl⟩
end
theorem Vt {a b i:Nat}(h1:a<=b+22528)(h2:b<=1+22528*i):a<=1+22528*(i+1):=Nat.le_trans h1 (Nat.le_trans (Nat.add_le_add_right h2 22528) (Nat.le_of_eq (by rw [Nat.mul_succ,Nat.add_assoc])))
theorem EV {T:TypeId}{fr:Nat×Nat}{tp:Tp}{pr:Bool}{n q w i:Nat}(cg:Cg tp pr n q w)(hi:i<=1100000){r:Rg}{X:Chunk}(h:Inv T fr tp pr n q w i r X)(rg:Nat) :
  Ct 9 [ptr rg] [Rg.ch rg r,X] fun u Bs=>u = .bool true/\∃r' X',Inv T fr tp pr n q w (i+1) r' X'/\Bs=[Rg.ch rg r',X']:=by
 obtain ⟨qs,ls,R,no,u,all,od,rm,lM,lD,GM,SM,GD,SD,pm,cs,mo,ring,S,M,Dn,Q,h,rfl⟩:=h
 obtain ⟨hn,hw,hp⟩:=h.lw cg
 obtain ⟨lC,cq,hv,hQ⟩:=h.vq
 have Cz:=h.ws
 have eV:=h.no
 have tY:=h.tx
 have iK:=h.ll
 have Du:=h.ql
 have N4:=h.dd
 obtain ⟨p,vQ,s,a,d⟩:=r
 simp only at hv
 subst hv
 have hk:=h.st.rk
 have hdk:=h.jB.ab4 hn hw hp hk.1
 rw [iK] at hdk
 have cu:=h.st
 obtain ⟨t,al,ra,rd,C,V,LA,CA,VA,Ld,CD,VD,Al,hV,hC,hA,hG,hD,hP,hL,rfl⟩:=cu
 obtain ⟨ad,c,D,O,adG,cG,DG,bG,cS,DS,h1,h2,h3,h4,h5,rfl⟩:=id N4
 refine (Um rg p s a d w cq lC (gK T fr) C Q (fun C'=>br p qs R.w6 C') (YZ p qs R C hC (by have:=cg.ok.hw;omega) oZ) (fun C' t V=>br p qs R.w6 C'/\∃ls,j7 qs ls/\ls.length=w/\jd t 11 tp pr n ls (pU R.w6 ls 1 w) V) (fun C' bA=>(Rb cg Du hdk bA Q lC cq hQ).to fun v Bs ⟨t,V,e1,e2,e3⟩=>⟨t,V,e1,⟨bA,e2⟩,e3⟩)
  _ (fun C' t V hV=>aaa cg Du hdk hV.1 ⟨eV.1,by omega⟩ (Nat.zero_le _) t V hV.2) lD h.jB.dk.VL.rel.dl u.txg u.note (q - 10) GD SD adG cG DG h4.rd bG cS DS h5.rd ad c D O h1.1 h3).on (Rs:=[(s,bS t (ptr al) ra rd u.txg u.note)]++(V++(CA++(VA++(CD++(VD++(Al++M))))))) bQ ?_
 rintro v Bs ⟨hv,s',b0,b1,b2,b3,b4,b5,b6,b7,a',l',ba,c',D',E,kS,yD,wo,j8,xA,Ax,⟨ls',R',no',EF,od',rm',cs',QV,aca,e1,e2,e3,e4,e5,e6⟩,g1,g2,g3,g4,g5,rfl⟩
 have q1:1<=no'/\no'<=1+22528*(i+1):=⟨e5.1,Vt e5.2 eV.2⟩
 have q2:u.txg<=1+(i+1):=Nat.le_trans tY (Nat.add_le_add_left (Nat.le_succ i) 1)
 refine ⟨_,[(s,bS t (ptr al) ra rd u.txg u.note)]++(V++(CA++(VA++(CD++(VD++(Al++M)))))),⟨hv,⟨p,.slice lC w cq,s',a',d⟩,_,⟨qs,ls',R',no',u,EF,od',rm',l',lD,SD,SD,GD,SD,pm,cs',QV,aca,_,_,_,Q,⟨⟨lC,cq,rfl,hQ⟩,e1,Du,e2,e3.nvM g1,e4,⟨ba,c',D',E,kS,yD,wo,j8,xA,Ax,IV.of g2,by have:=g2.dL;omega,g3,g4,g5,rfl⟩,N4,q1,q2,by rw [e6];exact Nat.zero_le _⟩,rfl⟩,rfl⟩,bQ⟩
set_option maxHeartbeats 4000000
theorem Rc {a txg note room:Nat}{G Z:List UInt8}{ad adG bG:Option Addr}{c cG cS:Nat}{D DG DS:Chunk}(hD:az D 65 130 (.slice ad 0 c) 0 [])(h4:az DG 5 1 (.slice adG 22528 cG) 22528 (ak G))(h5:az DS 5 1 (.slice bG 22528 cS) 22528 (ak Z)) :
  EM a [] txg note room G Z ([(a,eK (.slice ad 0 c) txg note room (.slice adG 22528 cG) (.slice bG 22528 cS))]++(D++([]++(DG++DS)))):=⟨ad,c,D,[],adG,cG,DG,bG,cS,DS,IV.of hD,Nat.zero_le _,fun o ho=>(by cases ho),h4,h5,rfl⟩
structure acb (A:Chunk)(o:Zq):Prop where
 b:∃ad m c bs,o.b = .slice ad m c/\Rd A 1 (.slice ad m c) m (ak bs)/\bs.length=m/\m<=c/\m<=1048576
 x:o.x<9223372036854775808/\o.y<9223372036854775808
 nt:o.nt<18446744073709551616
section
variable {T:TypeId}{fr:Nat×Nat}{tp:Tp}{pr:Bool}{n q w i:Nat}(cg:Cg tp pr n q w)(hi:i<=1100000){r:Rg}{X:Chunk}(h:Inv T fr tp pr n q w i r X)
include cg hi h
theorem Hx (rg:Nat)(o:Zq){A:Chunk}(ho:acb A o):Ct 20 [ptr rg,Zq.agg o] [Rg.ch rg r,X,A] fun u Bs=>u = .bool true/\∃r' X',Inv T fr tp pr n q w (i+1) r' X'/\Bs=[Rg.ch rg r',X',A]:=by
 obtain ⟨qs,ls,R,no,u,all,od,rm,lM,lD,GM,SM,GD,SD,pm,cs,mo,ring,S,M,Dn,Q,h,rfl⟩:=h
 obtain ⟨o,k,z,x,y,nt,b⟩:=o
 obtain ⟨⟨ad,m,c,bs,hb,hA,cV,hc,hm⟩,hx,Bf⟩:=ho
 simp only at hb hx Bf
 subst hb
 by_cases h0:o=0
 ·subst h0;exact (Q6 cg h rg k z x y nt m hm bs cV ad c A hA hc).to fun v Bs ⟨e,X',e1,e2⟩=>⟨e,r,X',e1,e2⟩
 by_cases h1:o=1
 ·subst h1;exact (Q7 cg h rg k z x y nt _ A).to fun v Bs ⟨e,X',e1,e2⟩=>⟨e,r,X',e1,e2⟩
 by_cases h2:o=2
 ·subst h2;exact (Vm cg h rg k z x y nt _ A).to fun v Bs ⟨e,X',e1,e2⟩=>⟨e,r,X',e1,e2⟩
 by_cases h3:o=3
 ·subst h3;exact (Vn h rg k z x y nt _ A).to fun v Bs ⟨e,X',e1,e2⟩=>⟨e,r,X',e1,e2⟩
 by_cases h7:o=7
 ·subst h7;exact (LB cg hi h rg k z x y nt Bf _ A).to fun v Bs ⟨e,r',X',e1,e2⟩=>⟨e,r',X',e1.inv,e2⟩
 by_cases h9:o=9
 ·subst h9;exact (Vo cg hi h rg k z x y nt m hm bs cV ad c A hA hc).to fun v Bs ⟨e,X',e1,e2⟩=>⟨e,r,X',e1,e2⟩
 by_cases UY:o=10
 ·subst UY;exact (Q9 cg h rg k z x y nt _ A).to fun v Bs ⟨e,X',e1,e2⟩=>⟨e,r,X',e1,e2⟩
 exact (Vi rg k z x y nt _ o h0 h1 h2 h3 h7 h9 UY).cZ (Rg.ch rg r++(S++(M++(Dn++(Q++A))))) bQ ⟨rfl,r,_,h.Ly,rfl⟩
theorem Ja (rg:Nat)(o:Zq){A:Chunk}(ho:acb A o):Ct 7 [ptr rg,Zq.agg o] [Rg.ch rg r,X,A] fun u Bs=>u = .bool true/\∃r' X',Inv T fr tp pr n q w (i+1) r' X'/\Bs=[Rg.ch rg r',X',A]:=by
 by_cases h8:o.o=8
 ·obtain ⟨o,k,z,x,y,nt,b⟩:=o
  simp only at h8
  subst h8
  refine (G8 rg r X k z x y nt b (Inv T fr tp pr n q w (i+1)) (EV cg hi h rg)).on (Rs:=A) bQ ?_
  rintro v Bs ⟨hv,r',X',h1,rfl⟩
  exact ⟨_,[],⟨hv,r',X',h1,rfl⟩,bQ⟩
 ·exact K8 rg r X A o.k o.z o.x o.y o.nt o.b (Inv T fr tp pr n q w (i+1)) (Inv T fr tp pr n q w (i+1)) o.o h8 (Hx cg hi h rg o ho) fun r' X' h'=>(Vs cg h' rg o.o o.k o.z o.x o.y ho.x o.nt o.b).to fun v Bs ⟨e,e1⟩=>⟨e,r',X',h',e1⟩
end
section
variable {T:TypeId}{fr:Nat×Nat}{tp:Tp}{pr:Bool}{n w:Nat}(nL:tp.nL)(ok:dE tp pr n w)(n2:n<=2048)(hw:w=tp.leaves.toNat)
include nL ok n2 hw
theorem Re (O:Chunk)(ad:Option Addr)(c:Nat)(hO:az O 23 3 (.slice ad 1 c) 1 tp.lay):Ct 5 [.slice ad 1 c] [gK T fr,O] fun u Bs=>(bD pr w n / aN pr w 1024 / 4<10/\(∃x,u = .tuple #[x,.bool false,.bool true])/\Bs=[gK T fr,O]) \/
  10<=bD pr w n / aN pr w 1024 / 4/\∃rg r X,u = .tuple #[ptr rg,.bool true,.bool true]/\Inv T fr tp pr n (bD pr w n / aN pr w 1024 / 4) w 0 r X/\Bs=[Rg.ch rg r,X]:=by
 obtain ⟨q,hq⟩:∃q,q=bD pr w n / aN pr w 1024 / 4:=⟨_,rfl⟩
 have LU:∀k,k<w->uN ⟨11,[tp],0,k⟩=0/\eR.Ok ⟨11,[tp],0,k⟩:=fun k hk=>QU nL (by rw [<-hw];exact hk)
 have Cz:∀k,(qJ n k).ws=[]:=fun k=>by
  induction k with
  | zero=>rfl
  | succ k ih=>exact ih
 obtain ⟨R0,hR0⟩:∃R0,R0=(qJ n w).run (upto (qI n fun k=>⟨11,[tp],0,k⟩) w):=⟨_,rfl⟩
 have hb:=Un tp pr n w ok n2 (gK T fr) O ad c hO (fun p qs t V C'=>∃ls,ls.length=w/\j7 qs ls/\jd t 11 tp pr n ls 1 V/\br p qs R0 C'/\qs.length=w)
  (fun p qs C Q lC cq Du hC hQ hcq=>(Kx T fr p qs 11 tp pr n w ok Du (qJ n w) C hC (Hu n w) (fun k hk=>⟨(rS hk).1,(rS hk).2.1⟩) LU (by rw [Cz];exact Nat.zero_le _) O ad c hO Q lC cq hQ hcq).to fun v Bs ⟨t,V,ls,C',e1,e2,e3,e4,e5,e6⟩=>⟨t,V,C',e1,⟨ls,e2,e3,e4,by rw [hR0];exact e5,Du⟩,e6⟩)
  (fun bh p qs t V C' ⟨ls,e2,e3,e4,e5,e6⟩=>by
   subst e2
   obtain ⟨k1,k2,k3⟩:=EG (w:=ls.length) (pool:=11) (tp:=tp) ok.hn.1
   rw [<-hR0] at k1
   exact UG T fr p qs t 11 tp pr n ls 1 V e4 ok n2 R0 C' e5 (e3.ok k1.sz) e3.all k1.on bh)
  (fun p qs s b0 b1 b2 b3 b4 b5=>∃ls R ring,j7 qs ls/\ls.length=w/\qx tp pr n ls.length q R 1 ⟨11,1,0,ah⟩ [] [] ⟨[],[]⟩ [] [] (List.replicate 22528 0) (List.replicate 22528 0) [] [] UU ring/\AL T fr p qs tp pr n ls s R 1 1 0 [] [] ⟨[],[]⟩ (b0++(gK T fr++(b1++(b2++(b3++([]++(b4++([]++b5))))))))/\R.ws=[])
  (fun xN p qs t V C' ⟨ls,e2,e3,e4,e5,e6⟩=>by
   subst e2
   obtain ⟨k1,k2,k3,ring,k4⟩:=qx.new (tp:=tp) (pr:=pr) (q:=q) e3.i ⟨ok.hn.1,n2⟩ oZ R0 hR0
   refine (ZO T fr p qs t 11 tp pr n ls 1 V e4 ok n2 R0 C' e5 (e3.ok k2) e3.all k1 xN (fun i x hx=>by
    obtain ⟨e,hi⟩:=e3.i.at hx
    rw [e];exact k3 i hi) dZ ?_).to ?_
   ·have hl:=Rk.iJ (qJ n ls.length) (upto (qI n fun k=>⟨11,[tp],0,k⟩) ls.length)
    have hc:=cR (f:=qI n fun k=>⟨11,[tp],0,k⟩) (c:=2000) (fun k=>by
     have:=cR (f:=gB n k (whole (dJ ⟨11,[tp],0,k⟩))) (c:=274) (fun k=>by unfold gB;split <;> simp only [fm,List.length_replicate,List.length_cons,List.length_nil] <;> omega) 7
     show (upto (gB n k (whole (dJ ⟨11,[tp],0,k⟩))) 7).length<=2000
     omega) ls.length
    rw [Cz,<-hR0] at hl
    have:=ok.hw
    simp only [List.length_nil] at hl
    omega
   ·rintro v Bs ⟨s,al,ra,rd,rfl,C2,CA,CD,Al,a1,a2,a3,a4,rfl⟩
    have FW:=qu e3.i a1.ok (by rw [<-a1.len,e6]) (k1.run _).2
    exact ⟨s,_,C2,V,CA,CD,Al,rfl,⟨ls,_,ring,e3,rfl,k4,⟨t,al,ra,rd,C2,V,[],CA,[],[],CD,[],Al,e4,a1,a2,rfl,a3,rfl,a4,rfl⟩,FW⟩,rfl⟩)
 rw [<-hq] at hb ⊢
 refine hb.on (Rs:=[]) bQ ?_
 rintro v Bs (⟨h1,h2,rfl⟩ | ⟨h1,rg,p,qs,lC,cq,Q,s,b0,b1,b2,b3,b4,b5,a,adG,cG,DG,bG,cS,DS,d,ba,c',D',E,kS,yD,wo,j8,xA,Ax,rfl,e1,e2,⟨ls,R,ring,e3,e4,e5,e6,e7⟩,e8,e9,e10,e11,e12,rfl⟩)
 ·exact ⟨_,[],.inl ⟨h1,h2,rfl⟩,bQ⟩
 ·refine ⟨_,O++E,.inr ⟨h1,rg,⟨p,.slice lC w cq,s,a,d⟩,_,rfl,⟨qs,ls,R,1,⟨11,1,0,ah⟩,[],[],⟨[],[]⟩,[],[],_,_,_,_,[],[],UU,ring,_,_,_,Q,⟨⟨lC,cq,rfl,e2.rd⟩,e3,e1,e4,e5,e6,Rc (az.nil _ _) e8 e9,Rc e10 e11 e12,by decide,by simp only;omega,by rw [e7];exact Nat.zero_le _⟩,rfl⟩,rfl⟩,bQ⟩
end
section
variable {T:TypeId}{fr:Nat×Nat}{tp:Tp}{pr:Bool}{n q w i:Nat}(cg:Cg tp pr n q w){r:Rg}{X:Chunk}(h:Inv T fr tp pr n q w i r X)
include cg h
theorem aab:Ct 10 [ptr r.s,ptr r.a] [X] fun v Bs=>v = .bool true/\Bs=[X]:=by
 obtain ⟨qs,ls,R,no,u,all,od,rm,lM,lD,GM,SM,GD,SD,pm,cs,mo,ring,S,M,Dn,Q,h,rfl⟩:=h
 have f:=h.f cg
 have qq:=h.jB.rel
 obtain ⟨t,al,ra,rd,C,V,LA,CA,VA,Ld,CD,VD,Al,hV,hC,hA,hG,hD,hP,hL,rfl⟩:=h.st
 obtain ⟨ad,c,D,O,adG,cG,DG,bG,cS,DS,h1,h2,h3,h4,h5,rfl⟩:=h.dm
 have he:all.map (·.1)=LA.map (·.1):=hG.keys
 have iK:LA.length=lM.length:=by
  have h:=congrArg List.length he
  rw [List.length_map,List.length_map] at h
  exact h.symm.trans qq.len
 refine (Zb T fr r.p qs t 11 tp pr n ls no V hV f.ok R C hC f.ho f.hall f.on.2 r.s (ptr al) ra rd u.txg u.note LA CA hA all VA hG r.a lM qq.dl (q - 10) (.slice adG 22528 cG) (.slice bG 22528 cS) ad c D O h1.1 h3 iK (fun ks k1 k2=>qq.ks (by rw [he];exact k1) k2) (jW pm) (fun d hd => ?_)).cZ (CD++(VD++(Al++(DG++(DS++(Dn++Q)))))) bQ ⟨rfl,rfl⟩
 have hk:=rO qq.ord hd
 rcases qq.keys d.no with ⟨-,c⟩ | ⟨o,d',c1,c2,hi,hr⟩
 ·rw [hk] at c;cases c
 ·rw [hk] at c2;cases c2
  exact ⟨(qq.no d hd).1,o,c1,hr.size,hr.l8,f.Ql _ _ hi,fun e he=>(hi.fk e he).2.2⟩
theorem Vu:∃m,m<=q - 10/\Ct 11 [ptr r.s] [X] fun v Bs=>v = .int .i64 (m:Nat)/\Bs=[X]:=by
 obtain ⟨qs,ls,R,no,u,all,od,rm,lM,lD,GM,SM,GD,SD,pm,cs,mo,ring,S,M,Dn,Q,h,rfl⟩:=h
 have f:=h.f cg
 have hum:=h.jB.um
 obtain ⟨t,al,ra,rd,C,V,LA,CA,VA,Ld,CD,VD,Al,hV,hC,hA,hG,hD,hP,hL,rfl⟩:=h.st
 refine ⟨aS lM,by omega, ?_⟩
 have c:=Pn r.s t (ptr al) ra rd u.txg u.note LA CA hA all VA hG (fun e he=>(f.rel.each e he).2.2.2.1) f.rel.jE
 rw [f.rel.used] at c
 exact c.cZ (gK T fr++(C++(V++(CD++(VD++(Al++(M++(Dn++Q)))))))) bQ ⟨rfl,rfl⟩
theorem Vv:Ct 12 [ptr r.s] [X] fun v Bs=>v = .int .i64 (q - 10:Nat)/\Bs=[X]:=by
 obtain ⟨qs,ls,R,no,u,all,od,rm,lM,lD,GM,SM,GD,SD,pm,cs,mo,ring,S,M,Dn,Q,h,rfl⟩:=h
 have f:=h.f cg
 obtain ⟨t,al,ra,rd,C,V,LA,CA,VA,Ld,CD,VD,Al,hV,hC,hA,hG,hD,hP,hL,rfl⟩:=h.st
 have c:=Pb r.s t 11 tp pr n ls no V hV f.ok f.n2 (ptr al) ra rd u.txg u.note
 rw [f.q] at c
 exact c.cZ (gK T fr++(C++(CA++(VA++(CD++(VD++(Al++(M++(Dn++Q)))))))) ) bQ ⟨rfl,rfl⟩
omit cg in
theorem acd (k:Int):Ct 8 [ptr r.a,.int .i64 k] [X] fun v Bs=>(∃z,v = .int .i64 z /\ -1<=z)/\Bs=[X]:=by
 obtain ⟨qs,ls,R,no,u,all,od,rm,lM,lD,GM,SM,GD,SD,pm,cs,mo,ring,S,M,Dn,Q,h,rfl⟩:=h
 have aQ:=h.jB.rel.dl
 obtain ⟨ad,c,D,O,adG,cG,DG,bG,cS,DS,h1,h2,h3,h4,h5,rfl⟩:=h.dm
 refine (nW r.a lM aQ u.txg u.note (q - 10) (.slice adG 22528 cG) (.slice bG 22528 cS) ad c D h1.1 k).on (Rs:=S++(O++(DG++(DS++(Dn++Q))))) bQ ?_
 rintro v Bs ⟨⟨rfl, -⟩ | ⟨i,o,rfl, -⟩,rfl⟩
 ·exact ⟨_,[],⟨⟨_,rfl,by omega⟩,rfl⟩,bQ⟩
 ·exact ⟨_,[],⟨⟨_,rfl,by omega⟩,rfl⟩,bQ⟩
end
end Go.Proofs.YtcfioaeamfappaaGreatDoor
namespace Go.Sl
theorem ace (x:Int):∃b:UInt8,IntKind.u8.wrap x=((b.toNat:Nat):Int):=by
 refine ⟨UInt8.ofNat (x % 256).toNat, ?_⟩
 rw [IntKind.wrap_u8,UInt8.toNat_ofNat']
 omega
theorem Rf:∀ {l:List Value},(∀v∈l,∃b:UInt8,v = .int .u8 ((b.toNat:Nat):Int))->∃bs,l=ak bs
 | [],_=>⟨[],rfl⟩
 | v :: l,h=>by
  obtain ⟨b,rfl⟩:=h v (List.mem_cons_self ..)
  obtain ⟨bs,rfl⟩:=Rf fun v hv=>h v (List.mem_cons_of_mem _ hv)
  exact ⟨b :: bs,rfl⟩
end Go.Sl
namespace Go.Proofs.YtcfioaeamfappaaGreatDoor
open Go.Sl
set_option maxRecDepth 10000
set_option maxHeartbeats 4000000
theorem Rh (m:Nat)(hm:m<=20480)(s:Int):Ct 6 [.int .i64 m,.int .u8 s] [] fun u Bs=>∃g bs,u = .slice (some ⟨g,0,none⟩) m m/\bs.length=m/\Bs=[[(g,av (ak bs) 5)]]:=by
 refine st Tryz.func6 fun w0 => ?_
 refine gm ?_;intro g
 refine gl [0,1,5] (fun ((i,_):Nat×List Value)=>[(6,.int .i64 i)]) (fun (i,l)=>[[(g,av (l++List.replicate (m - i) (.int .u8 0)) 5)]]) (fun (i,l)=>i<=m/\l.length=i/\∀v∈l,∃b:UInt8,v = .int .u8 ((b.toNat:Nat):Int)) (fun (i,_)=>m - i) (0,[]) ⟨by omega,rfl,fun _ h=>by cases h⟩ ?_
 rintro ⟨i,l⟩ ⟨hi,hl,hb⟩
 refine gi ?_ ?_ <;> intro bh
 ·have eQ:∀v,(l++List.replicate (m - i) (Value.int .u8 0)).set i v=(l++[v])++List.replicate (m - (i+1)) (Value.int .u8 0):=fun v=>by
   rw [show m - i=(m - (i+1))+1 by omega,List.replicate_succ,List.set_append_right _ _ oZ,hl,Nat.sub_self,List.append_assoc];rfl
  have hlen:(l++List.replicate (m - i) (Value.int .u8 0)).length=m:=by rw [List.length_append,List.length_replicate];omega
  refine go ?_
  rw [eQ]
  refine gn ?_
  refine ⟨(i+1,l++[_]),⟨by omega,by simp [hl],fun v hv => ?_⟩,by simp only;omega,aq,_,aa⟩
  rcases List.mem_append.1 hv with hv | hv
  ·exact hb v hv
  ·rw [List.mem_singleton.1 hv]
   obtain ⟨b,hb⟩:=ace _
   exact ⟨b,congrArg _ hb⟩
 ·obtain rfl:i=m:=by omega
  obtain ⟨bs,rfl⟩:=Rf hb
  rw [ai] at hl
  rw [Nat.sub_self,List.replicate_zero,List.append_nil]
  refine gz ?_
  exact fin ⟨g,bs,rfl,hl,rfl⟩ aa
section
variable {T:TypeId}{fr:Nat×Nat}{tp:Tp}{pr:Bool}{n q w:Nat}
theorem acf {i:Nat}{r:Rg}{X:Chunk}(h:Inv T fr tp pr n q w i r X):∃B,X.Perm (gK T fr++B):=by
 obtain ⟨qs,ls,R,no,u,all,od,rm,lM,lD,GM,SM,GD,SD,pm,cs,mo,ring,S,M,Dn,Q,h,rfl⟩:=h
 obtain ⟨t,al,ra,rd,C,V,LA,CA,VA,Ld,CD,VD,Al,hV,hC,hA,hG,hD,hP,hL,rfl⟩:=h.st
 exact ⟨[(r.s,bS t (ptr al) ra rd u.txg u.note)]++(C++(V++(CA++(VA++(CD++(VD++(Al++(M++(Dn++Q))))))))),bQ⟩
theorem Ri (cg:Cg tp pr n q w){i:Nat}(hi:i<=1100000){r:Rg}{X:Chunk}(h:Inv T fr tp pr n q w i r X)(rg nt:Nat)(Bf:nt<18446744073709551616):Ct 7 [ptr rg,nM 7 0 0 0 0 nt (.slice none 0 0)] [Rg.ch rg r,X] fun u Bs=>u = .bool true/\∃r' X',Inv T fr tp pr n q w (i+1) r' X'/\Bs=[Rg.ch rg r',X']:=by
 refine (Ja cg hi h rg ⟨7,0,0,0,0,nt,.slice none 0 0⟩ (A:=[]) ⟨⟨none,0,0,[],rfl,Rd.nil [] 1,rfl,Nat.le_refl _,by decide⟩,⟨by simp only;omega,by simp only;omega⟩,Bf⟩).on (Rs:=[]) bQ ?_
 rintro v Bs ⟨hv,r',X',h1,rfl⟩
 exact ⟨_,[],⟨hv,r',X',h1,rfl⟩,bQ⟩
theorem Jb (cg:Cg tp pr n q w){i:Nat}(hi:i<=1100000){r:Rg}{X:Chunk}(h:Inv T fr tp pr n q w i r X)(rg:Nat)(k:Int)(g m:Nat)(bs:List UInt8)(cV:bs.length=m)(hm:m<=20480):Ct 7 [ptr rg,nM 0 k 0 0 0 0 (.slice (some ⟨g,0,none⟩) m m)] [Rg.ch rg r,X,[(g,av (ak bs) 5)]] fun u Bs=>u = .bool true/\∃r' X',Inv T fr tp pr n q w (i+1) r' X'/\Bs=[Rg.ch rg r',X',[(g,av (ak bs) 5)]] :=
 Ja cg hi h rg ⟨0,k,0,0,0,0,.slice (some ⟨g,0,none⟩) m m⟩ ⟨⟨_,m,m,bs,rfl,(T3 (g:=g) (T:=5) (b:=bs) cV oZ).rd,cV,Nat.le_refl _,by omega⟩,⟨by simp only;omega,by simp only;omega⟩,by simp only;omega⟩
end
theorem Vw (tp:Tp)(m gr sd:Int)(cr:Bool)(h:¬tp.nL\/m<1\/20<m\/gr<1\/8<gr):Ct 3 [tp.agg,.int .i64 m,.int .i64 gr,.int .u8 sd,.bool cr] [] fun u Bs=>u = .bool true/\Bs=[]:=by
 refine st Tryz.func3 fun w0 => ?_
 refine ga ?_;intro b5
 refine gc (IQ tp) ?_
 rintro _ _ ⟨rfl,rfl⟩
 refine go ?_
 by_cases hr:tp.nL
 ·rw [decide_eq_true hr]
  refine gg ?_ ?_ <;> intro h1
  ·refine gz ?_
   exact fin ⟨rfl,rfl⟩ aa
  ·refine gg ?_ ?_ <;> intro h2
   ·refine gz ?_
    exact fin ⟨rfl,rfl⟩ aa
   ·refine gg ?_ ?_ <;> intro h3
    ·refine gz ?_
     exact fin ⟨rfl,rfl⟩ aa
    ·have h4:8<gr:=by
      rcases h with h | h | h | h | h
      ·exact absurd hr h
      all_goals omega
     refine gz ?_
     exact fin ⟨rfl,rfl⟩ aa
 ·rw [decide_eq_false hr]
  refine gz ?_
  exact fin ⟨rfl,rfl⟩ aa
section
variable {T:TypeId}{fr:Nat×Nat}{tp:Tp}{pr:Bool}{n q w:Nat}(nL:tp.nL)(cg:10<=q->Cg tp pr n q w)
 (hb:∀O ad c,az O 23 3 (.slice ad 1 c) 1 tp.lay->Ct 5 [.slice ad 1 c] [gK T fr,O] fun u Bs=>(∃x,u = .tuple #[x,.bool false,.bool true])/\Bs=[gK T fr,O]\/10<=q/\∃rg r X,u = .tuple #[ptr rg,.bool true,.bool true]/\Inv T fr tp pr n q w 0 r X/\Bs=[Rg.ch rg r,X])
include nL cg hb
theorem aac (m gr:Nat)(hm:1<=m/\m<=20)(hg:1<=gr/\gr<=8)(sd:Int)(cr:Bool):Ct 3 [tp.agg,.int .i64 m,.int .i64 gr,.int .u8 sd,.bool cr] [gK T fr] fun u Bs=>u = .bool true/\(Bs=[gK T fr]\/∃b r X,Inv T fr tp pr n q w b r X/\Bs=[X]):=by
 have jo:=fun s=>Rh (m*1024) oZ s
 rw [show ((m*1024:Nat):Int)=(m:Int)*1024 by omega] at jo
 refine st Tryz.func3 fun w0 => ?_
 refine ga ?_;intro b5
 refine gc (IQ tp) ?_
 rintro _ _ ⟨rfl,rfl⟩
 refine go ?_
 rw [decide_eq_true nL]
 refine gm ?_;intro b49
 have hO:az [(b49,av tp.lay 23)] 23 3 (.slice (some ⟨b49,0,none⟩) 1 1) 1 tp.lay:=⟨rfl,tp.bC,.inr ⟨b49,1,[],rfl,by rw [List.append_nil],Nat.le_refl _,by decide,rfl⟩⟩
 refine gc (hb _ _ _ hO) ?_
 rintro _ _ (⟨⟨x,rfl⟩,rfl⟩ | ⟨UY,rg,r,X,rfl,hX,rfl⟩)
 ·refine gz ?_
  exact fin ⟨rfl,.inl rfl⟩ aa
 ·have cg:=cg UY
  refine gl [1,2,3,4,12] (fun ((i,k,_):Nat×Nat×Nat×Rg×Chunk)=>[(16,.int .i64 i),(15,.int .i64 k)]) (fun (_,_,_,r,X)=>[Rg.ch rg r,X]) (fun (i,k,b,r,X)=>(1<=i/\i<=113)/\k<=112/\b<i/\Inv T fr tp pr n q w b r X) (fun (i,_)=>113 - i) (1,0,0,r,X) ⟨⟨by omega,by omega⟩,by omega,by omega,hX⟩ ?_
  clear hX
  rintro ⟨i,k,b,r,X⟩ ⟨hi,hk,GP,hX⟩
  refine gi ?_ ?_ <;> intro bh
  ·refine gc (jo _) ?_
   rintro _ _ ⟨g,bs,rfl,cV,rfl⟩
   refine ga ?_;intro b17
   refine gc (Jb cg oZ hX rg i g (m*1024) bs cV oZ) ?_
   rintro _ _ ⟨rfl,r',X',hX',rfl⟩
   refine gc (acd hX' i) ?_
   rintro _ _ ⟨⟨z,rfl,hz⟩,rfl⟩
   refine gi ?_ ?_ <;> intro hz0
   ·refine gn ?_
    exact ⟨(i+1,i,b+1,r',X'),⟨⟨by omega,by omega⟩,by omega,by omega,hX'⟩,by simp only;omega,aq,_,aa⟩
   ·refine gn ?_
    exact ⟨(i+1,k,b+1,r',X'),⟨⟨by omega,by omega⟩,by omega,by omega,hX'⟩,by simp only;omega,aq,_,aa⟩
  ·clear bh
   refine gl [1,2,3,4,12,15] (fun ((g,_):Nat×Nat×Rg×Chunk)=>[(19,.int .i64 g)]) (fun (_,_,r,X)=>[Rg.ch rg r,X]) (fun (g,b,r,X)=>g<=gr/\b<=112+120*g/\Inv T fr tp pr n q w b r X) (fun (g,_)=>gr - g) (0,b,r,X) ⟨by omega,by omega,hX⟩ ?_
   clear hX GP
   rintro ⟨g,b,r,X⟩ ⟨hg2,hb2,hX⟩
   refine gi ?_ ?_ <;> intro bh
   ·refine gc (Ri cg oZ hX rg g oZ) ?_
    rintro _ _ ⟨rfl,r,X,hX,rfl⟩
    cases cr
    case' true =>
     refine gc (EV cg oZ hX rg) ?_
     rintro _ _ ⟨rfl,r,X,hX,rfl⟩
    all_goals
     obtain ⟨b1,Ba,hX⟩:∃b1,b1<=114+120*g/\Inv T fr tp pr n q w b1 r X:=⟨_,by omega,hX⟩
     refine gl [1,2,3,4,12,15,19] (fun ((j,_):Nat×Nat×Rg×Chunk)=>[(22,.int .i64 j)]) (fun (_,_,r,X)=>[Rg.ch rg r,X]) (fun (j,b,r,X)=>(1<=j/\j<=k+1)/\b<=114+120*g+j/\Inv T fr tp pr n q w b r X) (fun (j,_)=>k+1 - j) (1,b1,r,X) ⟨⟨by omega,by omega⟩,by omega,hX⟩ ?_
     clear hX
     rintro ⟨j,b,r,X⟩ ⟨hj,hb3,hX⟩
     refine gi ?_ ?_ <;> intro pD
     ·refine gc (jo _) ?_
      rintro _ _ ⟨gg_,bs,rfl,cV,rfl⟩
      refine ga ?_;intro b23
      refine gc (Jb cg oZ hX rg j gg_ (m*1024) bs cV oZ) ?_
      rintro _ _ ⟨rfl,r',X',hX',rfl⟩
      refine gn ?_
      exact ⟨(j+1,b+1,r',X'),⟨⟨by omega,by omega⟩,by omega,hX'⟩,by simp only;omega,aq,_,aa⟩
     ·refine gn ?_
      exact ⟨(g+1,b,r,X),⟨by omega,by omega,hX⟩,by simp only;omega,aq,_,aa⟩
   ·obtain rfl:g=gr:=by omega
    refine gc (Ri cg oZ hX rg 99 dZ) ?_
    rintro _ _ ⟨rfl,r,X,hX,rfl⟩
    obtain ⟨mU,hmU,hU⟩:=Vu cg hX
    refine gd [0,4,8,12,16,20,24,28,35,38] ?_
    refine gc (aab cg hX) ?_
    rintro _ _ ⟨rfl,rfl⟩
    refine gd [0,4,8,12,16,20,24,28,32,40,44,48,52,37,59,62,66,70] ?_
    refine gc hU ?_
    rintro _ _ ⟨rfl,rfl⟩
    refine gc (Vv cg hX) ?_
    rintro _ _ ⟨rfl,rfl⟩
    refine gz ?_
    exact fin ⟨by simp;omega,.inr ⟨_,r,X,hX,rfl⟩⟩ aa
end
end Go.Proofs.YtcfioaeamfappaaGreatDoor
namespace Go.Sl
open Go.ChangeShapes Go.WideShapes Go.ChangeAt Go.RowKit Go.ChangeMaps
def old (w:World):Chunk:=w.heap.toList.zipIdx.map fun x=>(x.2,x.1)
theorem Jc {w:World}{b:Nat}{o:Obj}(h:w.heap[b]? = some o):(b,o)∈old w:=by
 refine List.mem_map.2 ⟨(o,b), ?_,rfl⟩
 rw [List.mem_zipIdx_iff_getElem?]
 simpa using h
theorem AU (w:World):Own w (old w):=by
 refine ⟨?_,fun x hx => ?_⟩
 ·have:(old w).map (·.1)=List.range' 0 w.heap.toList.length:=by simp [old,Function.comp_def]
  rw [this];exact List.nodup_range'
 ·obtain ⟨y,hy,rfl⟩:=List.mem_map.1 hx
  rw [List.mem_zipIdx_iff_getElem?] at hy
  simpa using hy
theorem aad (w:World):Hp w [old w]:=by simpa [Hp] using AU w
theorem LC {w w':World}{Bs:List Chunk}(h:l5 w w' [old w] (old w :: Bs)):Below w.heap.size w w' :=
 ⟨h.os,h.tape,h.output,h.size,fun k hk=>by
  have e:w.heap[k]? = some w.heap[k]:=Array.getElem?_eq_getElem hk
  rw [e]
  have h1:=h.own [] (by simpa using AU w)
  exact h1.2 (k,w.heap[k]) (by simp [Jc e])⟩
def EW {H:Type}(enc:TypeId×Value->H)(P:Program)(w:World)(e:TypeId)(s:Nat){α:Type}(lay:α->List Value)(dY:α->Prop):Prop :=
 ∀n cs x,DataW.trod enc P w 0 (fun _=>true) true n e cs=some x->cs.length=s->(x.1.weights P e).all (· <= reachBytes)=true->∃a,cs=lay a/\dY a
section
variable {H:Type}{enc:TypeId×Value->H}{P:Program}{w:World}{t e:TypeId}{s:Nat}{α:Type}{lay:α->List Value}{dY:α->Prop}
theorem EW.imp {EX:α->Prop}(h:EW enc P w e s lay dY)(k:∀a,dY a->EX a):EW enc P w e s lay EX:=fun n cs x h1 h2 h3=>by
 obtain ⟨a,h4,h5⟩:=h n cs x h1 h2 h3
 exact ⟨a,h4,k a h5⟩
theorem EW.map {β:Type}{acg:β->List Value}{EX:β->Prop}(h:EW enc P w e s lay dY)(k:∀a,dY a->∃b,lay a=acg b/\EX b):EW enc P w e s acg EX:=fun n cs x h1 h2 h3=>by
 obtain ⟨a,h4,h5⟩:=h n cs x h1 h2 h3
 obtain ⟨b,h6,h7⟩:=k a h5
 exact ⟨b,h4.trans h6,h7⟩
theorem Jd {k:IntKind}(ht:P.underlying t=some (.int k)):EW enc P w t 1 (fun z=>[.int k z]) (fun z=>(Lit.int k z).wf=true):=fun n cs x h _ _=>by
 obtain ⟨z,h1,_,h2⟩:=DataW.trod_int ht h
 exact ⟨z,h1,h2⟩
theorem qA (ht:P.underlying t=some (.int .i64)):EW enc P w t 1 (fun z=>[.int .i64 z]) (fun z => -9223372036854775808<=z/\z<=9223372036854775807) :=
 (Jd ht).imp fun z hz=>by simpa [Lit.wf,IntKind.min,IntKind.max,IntKind.signed,IntKind.bits] using hz
theorem aae (ht:P.underlying t=some (.int .u8)):EW enc P w t 1 (fun b:UInt8=>[.int .u8 b.toNat]) (fun _=>True) :=
 (Jd ht).map fun z hz=>by
  have hz:0<=z/\z<=255:=by simpa [Lit.wf,IntKind.min,IntKind.max,IntKind.signed,IntKind.bits] using hz
  refine ⟨UInt8.ofNat z.toNat, ?_,trivial⟩
  have:(UInt8.ofNat z.toNat).toNat=z.toNat:=by simp;omega
  rw [this,Int.toNat_of_nonneg hz.1]
theorem Rj (ht:P.underlying t=some .bool):EW enc P w t 1 (fun b=>[.bool b]) (fun _=>True):=fun n cs x h _ _=>by
 obtain ⟨z,h1,_⟩:=DataW.trod_bool ht h
 exact ⟨z,h1,trivial⟩
theorem Hy {fs:Array Field}(ht:P.underlying t=some (.struct fs)){n:Nat}{cs:List Value}{x:DataW H×List MemPlace}(h:DataW.trod enc P w 0 (fun _=>true) true n t cs=some x)(hw:(x.1.weights P t).all (· <= reachBytes)=true)
  {i:Nat} {f:Field} (hf:fs[i]? = some f) (hd:EW enc P w f.type s lay dY) (hs:((cs.drop f.offset).take (P.cellsOf f.type)).length=s):∃a,(cs.drop f.offset).take (P.cellsOf f.type)=lay a/\dY a:=by
 obtain ⟨xs,m,rfl,rfl,hl,X6,hx⟩:=DataW.trod_struct ht h
 have hi:i<fs.size:=(Array.getElem?_eq_some_iff.1 hf).1
 have h1:=hx i f hf
 rw [List.getElem?_eq_getElem oZ] at h1
 refine hd _ _ _ h1 hs (List.all_eq_true.2 fun k hk => ?_)
 simp only [DataW.weights,ht] at hw
 exact List.all_eq_true.1 hw k (DataW.weights_mem_each (j:=i) (by simpa using ⟨f,hf,rfl⟩) (by simp [List.getElem?_eq_getElem (show i<xs.length by omega)]) k hk)
theorem rT {fs:Array Field}(i off:Nat){ft:TypeId}(ht:P.underlying t=some (.struct fs)){n:Nat}{cs:List Value}{x:DataW H×List MemPlace}(h:DataW.trod enc P w 0 (fun _=>true) true n t cs=some x)(hw:(x.1.weights P t).all (· <= reachBytes)=true)
  (hf:(fs[i]?).map (fun f=>(f.type,f.offset))=some (ft,off)) (hc:P.cellsOf ft=s) (hd:EW enc P w ft s lay dY) (hs:off+s<=cs.length):∃a,(cs.drop off).take s=lay a/\dY a:=by
 rw [Option.map_eq_some_iff] at hf
 obtain ⟨f,h1,h2⟩:=hf
 cases h2
 have:=Hy ht h hw h1 hd (by rw [hc,List.length_take,List.length_drop];omega)
 rwa [hc] at this
theorem EW.arg (hd:EW enc P w t 1 lay dY){v:Value}{d:DataW H}{p:List MemPlace}(h:DataW.Trod enc P w 0 (fun _=>true) true t v d p)(h1:v.cells.toList=[v]){ts:List TypeId}{ds:List (DataW H)}
  (hw:(DataW.weightsEach P ts ds).all (· <= reachBytes)=true) {j:Nat} (ht:ts[j]? = some t) (hdj:ds[j]? = some d):∃a,[v]=lay a/\dY a:=by
 obtain ⟨n,hn⟩:=h
 rw [h1] at hn
 exact hd n _ _ hn rfl (List.all_eq_true.2 fun k hk=>List.all_eq_true.1 hw k (DataW.weights_mem_each ht hdj k hk))
theorem EW.aeV (hd:EW enc P w t s lay dY){cs:Array Value}{d:DataW H}{p:List MemPlace}(h:DataW.Trod enc P w 0 (fun _=>true) true t (.agg cs) d p)(h1:cs.size=s){ts:List TypeId}{ds:List (DataW H)}
  (hw:(DataW.weightsEach P ts ds).all (· <= reachBytes)=true) {j:Nat} (ht:ts[j]? = some t) (hdj:ds[j]? = some d):∃a,cs=(lay a).toArray/\dY a:=by
 obtain ⟨n,hn⟩:=h
 obtain ⟨a,h2,h3⟩:=hd n _ _ hn (by rw [Array.length_toList];exact h1) (List.all_eq_true.2 fun k hk=>List.all_eq_true.1 hw k (DataW.weights_mem_each ht hdj k hk))
 exact ⟨a,by rw [<-h2];rfl,h3⟩
theorem AV {b:Nat}{k:IntKind}(ht:P.underlying t=some (.int k)){v:Value}(h:Value.okWide P w .any b t v):v.cells.toList=[v]:=by
 obtain ⟨s,rfl⟩:=okWide_int ht h
 rfl
theorem Rl {b:Nat}(ht:P.underlying t=some .bool){v:Value}(h:Value.okWide P w .any b t v):v.cells.toList=[v]:=by
 obtain ⟨s,rfl⟩:=okWide_bool ht h
 rfl
end
end Go.Sl
namespace Go.Proofs.YtcfioaeamfappaaGreatDoor
open Go.Sl Go.ChangeShapes Go.WideShapes Go.ChangeAt Go.RowKit
section
variable {H:Type}{enc:TypeId×Value->H}{P:Program}{w:World}{t e:TypeId}{s:Nat}{α:Type}{lay:α->List Value}{dY:α->Prop}{size:α->Nat}
end
section
variable {H:Type}{enc:TypeId×Value->H}{w:World}
theorem Vx:EW enc Tryz.prog w 23 3 Tp.lay (fun _=>True):=fun n cs x h hlen hw=>by
 match cs,hlen with
 | [c0,c1,c2],_ =>
 have ki:Tryz.prog.cellsOf 3=1:=by kernel_rfl
 have ht:=Tryz.underlying23
 obtain ⟨a0,e0,h0⟩:=rT 0 0 ht h hw rfl ki (qA (enc:=enc) Tryz.underlying3) (by simp)
 obtain ⟨a1,e1,h1⟩:=rT 1 1 ht h hw rfl ki (qA (enc:=enc) Tryz.underlying3) (by simp)
 obtain ⟨a2,e2,h2⟩:=rT 2 2 ht h hw rfl ki (qA (enc:=enc) Tryz.underlying3) (by simp)
 simp only [List.drop_succ_cons,List.drop_zero,List.take_succ_cons,List.take_zero,List.cons.injEq,and_true] at e0 e1 e2
 subst e0 e1 e2
 exact ⟨⟨a0,a1,a2⟩,rfl,trivial⟩
end
theorem Rn {W:World}(h:laidMetH Tryz.prog [("undercroft/sum.rounds",Rows.laid_undercroft_sum_rounds)] W):∃T fr,(0,Obj.cells (fG q9).toArray T fr)∈old W:=by
 rw [MakeChecks.laidMetH_plain _ _ _ yZ] at h
 obtain ⟨ps,⟨g0,t0,cs,f0,p0,q0,hg0,ht0,hv,hd0,_,_⟩,_,_⟩:=h
 have a0:Tryz.prog.globalNamed "undercroft/sum.rounds" = some 0:=by kernel_rfl
 obtain rfl:=Option.some.inj (a0.symm.trans hg0)
 obtain rfl:=Option.some.inj ((show (Tryz.prog.globals[(0:Nat)]?).map (·.type)=some 364 by kernel_rfl).symm.trans ht0)
 have ce:Tryz.prog.cellsOf 285=1:=by kernel_rfl
 have ct:Tryz.prog.cellsOf 364=64:=by kernel_rfl
 have hd:DataW.trod (fun _:TypeId×Value=>()) Tryz.prog W 0 (fun _=>true) false f0 364 cs.toList=some (DataW.agg (q9.map fun n=>.lit (.int .u32 n)),p0):=hd0
 obtain ⟨xs,k,_,ex,hlen,hl,Jl⟩:=DataW.trod_array Tryz.underlying364 hd
 rw [ct] at hlen
 have e3:(xs.map (·.1))=q9.map fun n=>(DataW.lit (.int .u32 n):DataW Unit):=(DataW.agg.inj (Prod.mk.inj ex).1).symm
 have Mt:cs.toList=fG q9:=by
  apply List.ext_getElem?
  intro i
  rcases Nat.lt_or_ge i 64 with hi | hi
  ·have hE:=Jl i hi
   have jg:i<q9.length:=hi
   rw [ce,Nat.mul_one,List.getElem?_eq_getElem oZ] at hE
   obtain ⟨z,e1,e2,_⟩:=DataW.trod_int Tryz.underlying285 hE
   have e4:(xs.map (·.1))[i]? = (q9.map fun n=>(DataW.lit (.int .u32 n):DataW Unit))[i]?:=by rw [e3]
   rw [List.getElem?_map,List.getElem?_map,List.getElem?_eq_getElem (by omega:i<xs.length),List.getElem?_eq_getElem jg,e2] at e4
   simp only [Option.map_some,Option.some.injEq,DataW.lit.injEq,Lit.int.injEq,true_and] at e4
   have h0:((cs.toList.drop i).take 1)[0]? = some (.int .u32 z):=by rw [e1];rfl
   have h1:cs.toList[i]? = some (.int .u32 z):=by simpa using h0
   rw [h1,e4,fG,List.getElem?_map,List.getElem?_eq_getElem jg]
   rfl
  ·rw [List.getElem?_eq_none oZ,List.getElem?_eq_none (by rw [fG,List.length_map];exact hi)]
 simp only [World.var?,a0,Option.bind_some] at hv
 split at hv
 ·rename_i c T fr hh
  cases hv
  exact ⟨T,fr,Jc (by rw [<-Mt];simpa using hh)⟩
 ·cases hv
def aaf (W:World)(g:Nat):Chunk:=(old W).filter fun x=>decide (x.1≠g)
theorem Vy {W:World}{g:Nat}{o:Obj}(h:(g,o)∈old W):(old W).Perm ([(g,o)]++aaf W g):=by
 have hn:=(AU W).1
 unfold aaf
 generalize old W=L at *
 induction L with
 | nil=>cases h
 | cons x r ih =>
  rw [List.map_cons,List.nodup_cons] at hn
  by_cases c:x.1=g
  ·have hx:(g,o)=x:=by
    rcases List.mem_cons.1 h with h | h
    ·exact h
    ·exact absurd (List.mem_map.2 ⟨_,h,rfl⟩) (by rw [<-c] at *;exact hn.1)
   subst hx
   rw [List.filter_cons_of_neg (by simp),List.filter_eq_self.2 fun y hy=>by
    simp only [ne_eq,decide_not,Bool.not_eq_true',decide_eq_false_iff_not]
    intro hc
    exact hn.1 (List.mem_map.2 ⟨y,hy,hc⟩)]
   exact List.Perm.refl _
  ·have h':(g,o)∈r:=by
    rcases List.mem_cons.1 h with h | h
    ·subst h;exact absurd rfl c
    ·exact h
   rw [List.filter_cons_of_pos (by simpa using c)]
   exact ((ih h' hn.2).cons x).trans (List.Perm.swap ..)
set_option maxRecDepth 10000
theorem Ro {T:TypeId}{fr:Nat×Nat}{tp:Tp}{pr:Bool}{n w:Nat}(nL:tp.nL)(ok:dE tp pr n w)(n2:n<=2048)(hw:w=tp.leaves.toNat)(m gr:Nat)(hm:1<=m/\m<=20)(hg:1<=gr/\gr<=8)(sd:Int)(cr:Bool) :
  ∃q,Ct 3 [tp.agg,.int .i64 m,.int .i64 gr,.int .u8 sd,.bool cr] [gK T fr] fun u Bs=>u = .bool true/\(Bs=[gK T fr]\/∃b r X,Inv T fr tp pr n q w b r X/\Bs=[X]):=by
 obtain ⟨q,hq⟩:∃q,q=bD pr w n / aN pr w 1024 / 4:=⟨_,rfl⟩
 have hb:=fun O ad c hO=>Re (T:=T) (fr:=fr) nL ok n2 hw O ad c hO
 rw [<-hq] at hb
 exact ⟨q,aac nL (fun UY=>⟨nL,ok,n2,hw,hq.symm,UY⟩) (fun O ad c hO=>(hb O ad c hO).to fun v Bs h=>h.elim (fun ⟨_,h1,h2⟩=>.inl ⟨h1,h2⟩) fun ⟨h1,rg,r,X,h2,h3,h4⟩=>.inr ⟨h1,rg,r,X,h2,h3,h4⟩) m gr hm hg sd cr⟩
theorem Rq (W:World)(hL:laidMetH Tryz.prog [("undercroft/sum.rounds",Rows.laid_undercroft_sum_rounds)] W)(X0:Tp)(_:True)(m:Int)(_ : -9223372036854775808<=m/\m<=9223372036854775807)(g:Int)(_ : -9223372036854775808<=g/\g<=9223372036854775807)(sd:UInt8)(_:True)(cr:Bool)(w0:World)(ach:Hp w0 [old W]) :
  R7 Tryz.prog 3 #[.agg X0.lay.toArray,.int .i64 m,.int .i64 g,.int .u8 sd.toNat,.bool cr] w0 fun u w'=>u = .bool true/\l5 w0 w' [old W] [old W]:=by
 obtain ⟨T,fr,ho⟩:=Rn hL
 have hp:=Vy ho
 by_cases hc:¬X0.nL\/m<1\/20<m\/g<1\/8<g
 ·refine (((Vw X0 m g sd.toNat cr hc).cZ (P':=fun u Bs=>u = .bool true/\Bs=[old W]) (old W) (by simp) ⟨rfl,rfl⟩) w0 ach).mono ?_
  rintro u w' ⟨Bs,⟨hu,rfl⟩,ht⟩
  exact ⟨hu,ht⟩
 ·have aag:X0.nL:=Classical.byContradiction fun h=>hc (.inl h)
  have h2:X0.bz.toNat<=2048:=by have:=aag.2.1;omega
  obtain ⟨m,rfl⟩:∃k:Nat,m=k:=⟨m.toNat,by omega⟩
  obtain ⟨g,rfl⟩:∃k:Nat,g=k:=⟨g.toNat,by omega⟩
  obtain ⟨q,ct⟩:=Ro (T:=T) (fr:=fr) aag (Zc aag) h2 rfl m g oZ oZ sd.toNat cr
  refine ((ct.on (Ls:=[old W]) (P':=fun u Bs=>u = .bool true/\Bs=[old W]) (Rs:=aaf W 0) (by simpa using hp) ?_) w0 ach).mono ?_
  ·rintro u Bs ⟨hu,rfl | ⟨b,r,X,hX,rfl⟩⟩
   ·refine ⟨[old W],[],⟨hu,rfl⟩, ?_⟩
    simp only [List.flatten_cons,List.flatten_nil,List.append_nil]
    exact hp.symm
   ·obtain ⟨B,hB⟩:=acf hX
    refine ⟨[old W],B,⟨hu,rfl⟩, ?_⟩
    simp only [List.flatten_cons,List.flatten_nil,List.append_nil]
    refine (hB.append_right _).trans ?_
    rw [List.append_assoc]
    refine (List.Perm.append_left _ List.perm_append_comm).trans ?_
    rw [<-List.append_assoc]
    exact hp.symm.append_right _
  ·rintro u w' ⟨Bs,⟨hu,rfl⟩,ht⟩
   exact ⟨hu,ht⟩
end Go.Proofs.YtcfioaeamfappaaGreatDoor
namespace Go.Sl
open Go.ChangeShapes Go.WideShapes Go.ChangeAt Go.RowKit
section
variable {H:Type}{enc:TypeId×Value->H}{P:Program}
theorem wS (hl:laidOutB P=true){W W':World}(hb:Below W.heap.size W W'){sp:Nat->Bool}:∀(ts:List TypeId) (vs:List Value) (ds:List (DataW H)) (ps:List MemPlace),
  (∀t∈ts,P.readableRec t=true/\t<P.types.size)->DataW.TrodAll enc P W 0 (fun _=>true) true ts vs ds ps->(∀x∈ps,x.block<W.heap.size)->(∀x∈ps,sp x.block=true)->DataW.TrodAll enc P W' 0 sp true ts vs ds ps
 | [],vs,ds,ps,_,h,_,_=>by
  obtain ⟨rfl,rfl,rfl⟩:=trodAll_nil h
  exact trodAll_mk0
 | t :: ts,vs,ds,ps,ht,h,bh,O0=>by
  obtain ⟨v0,vs0,d0,ds0,p0,q0,rfl,rfl,rfl,h0,r0⟩:=trodAll_cons h
  refine trodAll_cons_mk ?_ (wS hl hb ts vs0 ds0 q0 (fun u hu=>ht u (List.mem_cons_of_mem _ hu)) r0 (fun x hx=>bh x (List.mem_append_right _ hx)) (fun x hx=>O0 x (List.mem_append_right _ hx)))
  exact WideElems.Trod_stays hl (ht t (List.mem_cons_self ..)).1 (ht t (List.mem_cons_self ..)).2 h0 (fun x hx=>hb.same (bh x (List.mem_append_left _ hx))) (fun x hx=>O0 x (List.mem_append_left _ hx))
theorem Hz {f:Func}{s:ChangeSpec}{apart fresh handsOn again:Bool}{W W':World}{args:Array Value}{ds gs:List (DataW H)}{before:List MemPlace}{tb:TypeId}
  (hl:laidOutB P=true) (hW:DataW.Whole enc P f.params.toList s.vars apart W args.toList ds gs before) (WU:s.vars=[])
  (hts:∀t∈f.params.toList,P.readableRec t=true/\t<P.types.size) (hrt:f.resultTypes=#[tb]) (htb:P.underlying tb=some .bool)
  (hs:(s.fn H (ds++gs))={ results:=[.lit (.bool true)],args:=ds }) (hb:Below W.heap.size W W') :
  s.post enc P f apart fresh handsOn again W args (.bool true) W':=by
 have bh:∀p∈before,p.block<W.heap.size:=fun p hp=>hW.lt p hp
 obtain ⟨p,q,hA,hV,rfl,hz,hn⟩:=id hW
 rw [WU] at hV
 obtain ⟨rfl,rfl⟩:=trodVars_none hV
 simp only [List.append_nil] at *
 have Rr:∀sp:Nat->Bool,(∀x∈p,sp x.block=true)->DataW.TrodAll enc P W' 0 sp true f.params.toList args.toList (s.fn H ds).args p:=fun sp O0=>by
  rw [hs];exact wS hl hb _ _ _ _ hts hA bh O0
 have DZ:∀(b:Nat) (sp:Nat->Bool) (hd:Bool),DataW.TrodAll enc P W' b sp hd f.resultTypes.toList ((Value.bool true).resultList f.resultTypes.size) (s.fn H ds).results []:=fun b sp hd=>by
  rw [hs,hrt];exact trodAll_mk1 (shut_bool htb true)
 have hvs:∀sp:Nat->Bool,DataW.TrodVars enc P W' sp s.vars (s.fn H ds).vars []:=fun sp=>by
  rw [WU,hs];exact rfl
 refine ⟨ds,[],p,[],p,[],hW,by simpa using DZ _ _ _,by simpa using Rr _ (fun x hx=>by simpa using bh x hx),by simpa using hvs _,World.keptBut_mono (fun x hx=>⟨hx, ?_⟩) (hb.frame (· ∈ p)),fun _ => ?_⟩
 ·exact Or.inr (Or.inl hx)
 ·have aQ:∀(j:Nat) (t:TypeId) (r:Value),f.resultTypes[j]? = some t->((Value.bool true).resultList f.resultTypes.size)[j]? = some r->Value.okWide P W' .any 0 t r :=
   ok_one hrt rfl (okWide_bool_mk htb true)
  have h1:=trodAll_append (Rr (fun _=>true) (fun _ _=>rfl)) (DZ 0 (fun _=>true) true)
  refine ⟨aQ,_,[],[]++p,⟨[]++p,[],h1,by have:=hvs (fun _=>true);rw [hs] at this;exact this,by simp, ?_, ?_⟩,fun x hx _=>by simpa using hx⟩
  ·intro b off hx
   have jC:MemPlace.cell b off∈p:=by simpa using hx
   rw [hb.frozen (bh _ jC)]
   exact hz b off jC
  ·intro ha
   simpa using hn ha
end
end Go.Sl
namespace Go.Proofs.YtcfioaeamfappaaGreatDoor
open Go.Sl Go.ChangeShapes Go.WideShapes Go.ChangeAt Go.RowKit Go.ChangeMaps
theorem EY:ownKnob Tryz.prog.godebug=none:=by kernel_rfl
theorem lQ:laidOutB Tryz.prog=true:=by kernel_rfl
theorem AW (os:Os)(args:Array Value):laidMetH Tryz.prog [("undercroft/sum.rounds",Rows.laid_undercroft_sum_rounds)] ((World.doorLaid Tryz.prog 14 os).forCall (fun _ _=>0) ⟨#[],args,[]⟩).memory :=
 laidMetH_of_parts3 (fuel:=8) (laidMet_of_run' 8 yZ yZ) yZ yZ
set_option maxRecDepth 100000 in
theorem wT (os:Os)(started:os.Started)(H:Type)(enc:TypeId×Value->H) :
  ReturnsInHanded {} Tryz.checked os 3 .any (fun w args=>(Rows.topFullSpec.pre enc Tryz.prog Tryz.f3 [] false w args/\laidMetH Tryz.prog [("undercroft/sum.rounds",Rows.laid_undercroft_sum_rounds)] w)/\sizedMet enc Tryz.prog Tryz.f3 (OpenSpec.ofChange Rows.topFullSpec) false w args) (Rows.topFullSpec.post enc Tryz.prog Tryz.f3 false true false false):=by
 refine returnsInHanded_of_change_and (C:=Tryz.checked) (X:=fun w _=>laidMetH Tryz.prog [("undercroft/sum.rounds",Rows.laid_undercroft_sum_rounds)] w) (fun _ _ _ hh h=>h.of_heap hh) EY started yZ Tryz.func3
  (ChangeSpec.witness_shaped (enc:=enc) (C:=Tryz.checked) (os:=os) (X:=fun w _=>laidMetH Tryz.prog [("undercroft/sum.rounds",Rows.laid_undercroft_sum_rounds)] w) false (World.doorLaid Tryz.prog 14 os) #[.agg #[.int .i64 0,.int .i64 0,.int .i64 0],.int .i64 0,.int .i64 0,.int .u8 0,.bool false] 8 rfl (World.shaped_of_RefB yZ yZ) yZ yZ yZ (AW os _)) ?_
 intro W base args ds gs before aci hW _ hz hL _
 have LD:∀(j:Nat) t v,Tryz.f3.params[j]? = some t->args[j]? = some v->Value.okWide Tryz.prog W .any base t v:=aci
 have hW':=hW
 obtain ⟨p,q,hA0,hV,rfl,Zg,ek⟩:=hW
 have hA:DataW.TrodAll enc Tryz.prog W 0 (fun _=>true) true Tryz.f3.params.toList args.toList ds p:=hA0
 rw [Tryz.params3] at hA LD
 obtain ⟨v0,vs0,d0,ds0,p0,q0,Rr,rfl,rfl,h0,r0⟩:=trodAll_cons hA
 obtain ⟨v1,vs1,d1,pI,p1,q1,rfl,rfl,rfl,h1,r1⟩:=trodAll_cons r0
 obtain ⟨v2,vs2,d2,qF,p2,q2,rfl,rfl,rfl,h2,r2⟩:=trodAll_cons r1
 obtain ⟨v3,vs3,d3,ds3,p3,q3,rfl,rfl,rfl,h3,r3⟩:=trodAll_cons r2
 obtain ⟨v4,vs4,d4,ds4,p4,q4,rfl,rfl,rfl,h4,r4⟩:=trodAll_cons r3
 obtain ⟨rfl,rfl,rfl⟩:=trodAll_nil r4
 obtain rfl:args=#[v0,v1,v2,v3,v4]:=by cases args;simp_all
 obtain ⟨rfl,rfl⟩:=trodVars_none hV
 obtain ⟨cs0,rfl,aeW⟩:=okWide_struct Tryz.underlying23 (LD 0 _ v0 rfl rfl)
 obtain ⟨a0,rfl,g0⟩:=(Vx (enc:=enc)).aeV h0 (aeW.trans yZ) hz (j:=0) rfl rfl
 obtain ⟨a1,e1,g1⟩:=(qA Tryz.underlying3).arg h1 (AV Tryz.underlying3 (LD 1 _ v1 rfl rfl)) hz (j:=1) rfl rfl
 obtain ⟨a2,e2,g2⟩:=(qA Tryz.underlying3).arg h2 (AV Tryz.underlying3 (LD 2 _ v2 rfl rfl)) hz (j:=2) rfl rfl
 obtain ⟨a3,e3,g3⟩:=(aae Tryz.underlying5).arg h3 (AV Tryz.underlying5 (LD 3 _ v3 rfl rfl)) hz (j:=3) rfl rfl
 obtain ⟨a4,e4,g4⟩:=(Rj Tryz.underlying4).arg h4 (Rl Tryz.underlying4 (LD 4 _ v4 rfl rfl)) hz (j:=4) rfl rfl
 simp only [List.cons.injEq,and_true] at e1 e2 e3 e4
 subst e1 e2 e3 e4
 refine Calls.mono (Rq W (id hL) a0 g0 a1 g1 a2 g2 a3 g3 a4 W (aad W)) fun e W' ⟨v,he,hv,hT⟩ => ?_
 subst he hv
 exact ⟨_,rfl,Hz lQ hW' rfl (by intro t ht;rw [Tryz.params3] at ht;simp at ht;rcases ht with rfl | rfl | rfl | rfl | rfl <;> exact ⟨by kernel_rfl,of_decide_eq_true yZ⟩) rfl Tryz.underlying4 rfl (LC hT)⟩
theorem tt2:mapsRowed Tryz.pinned.checked.prog=true:=by kernel_rfl
theorem tt9:(Rows.topFullRow.inPlace==Tryz.pinned.checked.prog.inPlace 3)=true:=by kernel_rfl
theorem aeX:(Rows.topFullRow.unfollowed==Tryz.pinned.checked.prog.unfollowed 3)=true:=by kernel_rfl
theorem aeY:(Rows.topFullRow.recurses==Tryz.pinned.checked.prog.recurses 3)=true:=by kernel_rfl
theorem aeZ:(Rows.topFullRow.named==Tryz.pinned.checked.prog.varsNamed 3)=true:=by kernel_rfl
theorem ae0:(Rows.topFullRow.plainKeys==Tryz.pinned.checked.prog.plainKeys)=true:=by kernel_rfl
theorem ae1:Tryz.pinned.checked.prog.stopsHeard=true:=by kernel_rfl
theorem ae2:Tryz.pinned.checked.prog.mayEnter=true:=by kernel_rfl
theorem ae3:(Rows.topFullRow.lifted==Tryz.pinned.checked.prog.liftsFinal)=true:=by kernel_rfl
theorem fw {a b:Bool}(h:a=true)(k:b=true):(a&&b)=true:=by rw [h,k];rfl
theorem EZ:Rows.TopFullSaid :=
 OpenClaim.holds_of_wide 3 Tryz.f3 rfl rfl rfl rfl rfl rfl rfl ⟨rfl,rfl,rfl,rfl,rfl⟩ rfl rfl rfl rfl rfl yZ Tryz.func3
  (fw (fw (fw (fw (fw (fw (fw (fw (fw (fw (fw (fw (fw (fw (fw (fw (fw (fw (fw (fw (fw (fw (fw (fw (fw (fw (fw (fw (fw (fw (fw yZ lQ) tt2) yZ) yZ) yZ) yZ) yZ) yZ) tt9) aeX) aeY) aeZ) yZ) yZ) yZ) yZ) yZ) yZ) yZ) yZ) yZ) ae0) yZ) ae1) ae2) ae3) yZ) yZ) yZ) yZ) yZ)
  (of_decide_eq_true yZ) (by unfold Func.isWrapper;first | (rw [if_pos (by decide +kernel)];kernel_rfl) | (rw [if_neg (by decide +kernel)];exact ⟨rfl,rfl⟩))
  (fun os started H enc _=>wT os started H enc)
end Go.Proofs.YtcfioaeamfappaaGreatDoor
