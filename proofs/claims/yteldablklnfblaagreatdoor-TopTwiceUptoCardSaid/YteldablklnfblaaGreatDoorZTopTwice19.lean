/-
  Texts put together (19).
-/
import Derived.Test.YteldablklnfblaaGreatDoorZTopTwice18
namespace Go.Proofs.YteldablklnfblaaGreatDoor
open Go.Sl
set_option maxRecDepth 10000
set_option maxHeartbeats 4000000
section
variable (rg p s a d:Nat)(vQ:Value)(S M:Chunk)(k z x y e e1 e2:Int)(nt:Nat)(b:Value)
theorem VH (hs:Ct 25 [ptr s,.int .i64 k] [S] fun u Bs=>u = .tuple #[.int .i64 e1,.int .i64 e2]/\Bs=[S])(hd:Ct 57 [ptr a,.int .i64 k] [M] fun u Bs=>u = .tuple #[.int .i64 e1,.int .i64 e2]/\Bs=[M]) :
  Ct 18 [ptr rg,nR 5 k z x y nt b] [[(rg,l7 p vQ s a d)],S,M] fun u Bs=>u = .bool true/\Bs=[[(rg,l7 p vQ s a d)],S,M]:=by
 refine st Tryz.func18 fun w0 => ?_
 refine ga ?_;intro b3
 refine gd [0,4,8,12,16,20,27,30,34,38,42,46] ?_
 refine gc hs ?_
 rintro _ _ ⟨rfl,rfl⟩
 refine gd [0,4,8,12,16,20,27,30,34,38,42,46] ?_
 refine gc hd ?_
 rintro _ _ ⟨rfl,rfl⟩
 refine gz ?_
 exact fin ⟨by simp,rfl⟩ aa
theorem Jr (N:Nat)(bs:List UInt8)(hs:Ct 61 [ptr s,.int .i64 x,.int .i64 y] [S] fun u Bs=>∃ad c E,u = .tuple #[.slice ad N c,.int .i64 e]/\Rd E 1 (.slice ad N c) N (ak bs)/\Bs=[E,S])
  (hd:Ct 62 [ptr a,.int .i64 x,.int .i64 y] [M] fun u Bs=>∃ad c,u = .tuple #[.slice ad N c,.int .i64 e]/\Rd M 1 (.slice ad N c) N (ak bs)/\Bs=[M]) :
  Ct 18 [ptr rg,nR 11 k z x y nt b] [[(rg,l7 p vQ s a d)],S,M] fun u Bs=>u = .bool true/\Bs=[[(rg,l7 p vQ s a d)],S,M]:=by
 refine st Tryz.func18 fun w0 => ?_
 refine ga ?_;intro b3
 refine gd [0,4,8,12,16,20,24,28,35,38,42,46,50,54] ?_
 refine gc hs ?_
 rintro _ _ ⟨iK,c1,E,rfl,hE,rfl⟩
 refine gd [0,4,8,12,16,20,24,28,35,38,42,46,50,54] ?_
 refine gc hd ?_
 rintro _ _ ⟨ad2,c2,rfl,hR,rfl⟩
 refine go ?_
 rw [show decide (bs=bs)=true from decide_eq_true rfl]
 refine gz ?_
 exact fin ⟨by simp,rfl⟩ aa
theorem Fe (PE:Value->Chunk->Prop)(hs:Ct 58 [ptr s,.int .i64 k,.int .u64 nt] [S] fun u Bs=>∃v E,u = .tuple #[v,.int .i64 e]/\PE v E/\Bs=[E,S])
  (hd:Ct 59 [ptr a,.int .i64 k,.int .u64 nt] [M] fun u Bs=>∃v E,u = .tuple #[v,.int .i64 e]/\PE v E/\Bs=[E,M])
  (hq:∀v1 E1 v2 E2,PE v1 E1->PE v2 E2->Ct 60 [v1,v2] [E1,E2] fun u Bs=>u = .bool true/\Bs=[E1,E2]) :
  Ct 18 [ptr rg,nR 6 k z x y nt b] [[(rg,l7 p vQ s a d)],S,M] fun u Bs=>u = .bool true/\Bs=[[(rg,l7 p vQ s a d)],S,M]:=by
 refine st Tryz.func18 fun w0 => ?_
 refine ga ?_;intro b3
 refine gd [0,4,8,12,16,20,24,28,35,38,42,46,50,54] ?_
 refine gc hs ?_
 rintro _ _ ⟨v1,E1,rfl,h1,rfl⟩
 refine gd [0,4,8,12,16,20,24,28,35,38,42,46,50,54] ?_
 refine gc hd ?_
 rintro _ _ ⟨v2,E2,rfl,h2,rfl⟩
 refine gc (hq v1 E1 v2 E2 h1 h2) ?_
 rintro _ _ ⟨rfl,rfl⟩
 refine gz ?_
 exact fin ⟨by simp,rfl⟩ aa
theorem VI (o:Int)(h4:o≠4)(h5:o≠5)(h6:o≠6)(h11:o≠11) :
  Ct 18 [ptr rg,nR o k z x y nt b] [] fun u Bs=>u = .bool true/\Bs=[]:=by
 refine st Tryz.func18 fun w0 => ?_
 refine ga ?_;intro b3
 refine gz ?_
 exact fin ⟨rfl,rfl⟩ aa
end
section
variable (rg p s a d:Nat)(vQ:Value)(S M:Chunk)(k z x y e e1 e2:Int)(nt:Nat)(b:Value)
theorem Js (N:Nat)(hN:N<=65536)(bs:List UInt8)(dr:bs.length=N)(hs:Ct 26 [ptr s,.int .i64 k,.int .i64 x,.int .i64 y] [S] fun u Bs=>∃ad c E,u = .tuple #[.slice ad N c,.int .i64 e]/\az E 5 1 (.slice ad N c) N (ak bs)/\Bs=[E,S])
  (hd:Ct 56 [ptr a,.int .i64 k,.int .i64 x,.int .i64 y] [M] fun u Bs=>∃ad c,u = .tuple #[.slice ad N c,.int .i64 e]/\Rd M 1 (.slice ad N c) N (ak bs)/\Bs=[M]) :
  Ct 18 [ptr rg,nR 4 k z x y nt b] [[(rg,l7 p vQ s a d)],S,M] fun u Bs=>u = .bool true/\Bs=[[(rg,l7 p vQ s a d)],S,M]:=by
 refine st Tryz.func18 fun w0 => ?_
 refine ga ?_;intro b3
 refine gd [0,4,8,12,16,20,24,28,32,36,43,46,50,54,58,62] ?_
 refine gc hs ?_
 rintro _ _ ⟨iK,c1,E,rfl,hE,rfl⟩
 have hEr:=hE.rd
 refine gd [0,4,8,12,16,20,24,28,32,36,43,46,50,54,58,62] ?_
 refine gc hd ?_
 rintro _ _ ⟨ad2,c2,rfl,hR,rfl⟩
 refine go ?_
 rw [show decide (bs=bs)=true from decide_eq_true rfl]
 obtain ⟨g1,g2,⟨hv,h3,rfl⟩ | ⟨g,q1,r,hv,rfl,h3,h4,h5⟩⟩:=hE
 ·cases hv
  refine gl [0,3,5,6,7,8,9] (fun i:Nat=>[(10,.int .i64 i)]) (fun _=>[]) (fun i=>i=0) (fun _=>0) 0 rfl ?_
  rintro i rfl
  refine gm ?_;intro b76
  refine gp ?_;intro ry c5 E5 hE5
  refine gz ?_
  exact fin ⟨by simp,rfl⟩ aa
 ·cases hv
  refine gl [0,3,5,6,7,8,9] (fun ((i,_):Nat×List Value)=>[(10,.int .i64 i)]) (fun (i,pre)=>[[(g,ax (pre++((ak bs).drop i++r)) 5)]]) (fun (i,pre)=>i<=N/\pre.length=i/\∀u∈pre,u.oneCell'=true) (fun (i,_)=>N - i) (0,[]) ⟨by omega,rfl,by simp⟩ ?_
  rintro ⟨i,pre⟩ ⟨hi,sU,tG⟩
  refine gi ?_ ?_ <;> intro bo
  ·have bm:i<bs.length:=by omega
   have O5:(ak bs).drop i = .int .u8 (bs[i].toNat:Int) :: (ak bs).drop (i+1):=by
    rw [List.drop_eq_getElem_cons (by rw [ai];omega)]
    congr 1
    simp [ak]
   rw [O5]
   have bV:(pre++(.int .u8 (bs[i].toNat:Int) :: (ak bs).drop (i+1)++r))[i]? = some (.int .u8 (bs[i].toNat:Int)):=by
    rw [List.getElem?_append_right oZ,sU,Nat.sub_self];rfl
   have fm:∀v,(pre++(.int .u8 (bs[i].toNat:Int) :: (ak bs).drop (i+1)++r)).set i v=(pre++[v])++((ak bs).drop (i+1)++r):=fun v=>by
    rw [List.set_append_right _ _ oZ,sU,Nat.sub_self,List.append_assoc];rfl
   refine go ?_
   rw [fm]
   refine gn ?_
   exact ⟨(i+1,pre++[.int .u8 (IntKind.u8.wrap ((bs[i].toNat:Int)+1))]),⟨by omega,by simp [sU],fun u hu=>by
    rcases List.mem_append.1 hu with hu | hu
    ·exact tG u hu
    ·rw [List.mem_singleton.1 hu];rfl⟩,by simp only;omega,aq,_,aa⟩
  ·obtain rfl:i=N:=by omega
   have hE2:az [(g,ax (pre++((ak bs).drop i++r)) 5)] 5 1 (.slice (some ⟨g,0,none⟩) i c1) i pre:=by
    have e:(ak bs).drop i=[]:=List.drop_eq_nil_of_le (by rw [ai];omega)
    rw [e,List.nil_append]
    refine ⟨by omega,tG,.inr ⟨g,c1,r,rfl,rfl,h3,h4, ?_⟩⟩
    rw [ai] at h5
    omega
   refine gm ?_;intro b76
   refine gp ?_;intro ry c5 E5 hE5
   refine gz ?_
   exact fin ⟨by simp,rfl⟩ aa
end
structure Cg (tp:Tp)(pr:Bool)(n q w:Nat):Prop where
 qk:tp.qk
 ok:dK tp pr n w
 n2:n<=2048
 hw:w=tp.leaves.toNat
 qe:bD pr w n / aN pr w 1024 / 4=q
 q10:10<=q
theorem Cg.q2 {tp:Tp}{pr:Bool}{n q w:Nat}(cg:Cg tp pr n q w):q - 10<=100000:=by
 have h1:=iB pr cg.ok.hw ⟨cg.ok.hn.1,cg.n2⟩
 have h2:=cg.qe
 have h3:bD pr w n / aN pr w 1024 / 4<=10240:=Nat.le_trans (Nat.div_le_self _ _) (Nat.le_trans (Nat.div_le_self _ _) h1.2)
 omega
structure VJ (T:TypeId)(fr:Nat×Nat)(tp:Tp)(pr:Bool)(n q w i:Nat)(r:Rg)(qs:List Nat)(ls:List (Option Lv))(R:Rk)(no:Nat)(u:Ub)(all:List (Int×Ob))(od:List (Int×List Pt))(x:Rm)(lM lD:List au)(GM SM GD SD:List UInt8)(pm:List dt)(cs:List (Int×Ob))(mo:Ob)(ring:Nat->Option Ub)(S M Dn Q:Chunk):Prop where
 vq:∃ad c,r.vQ = .slice ad w c/\Rd Q 1 (.slice ad w c) w (qs.map ptr)
 lo:jK qs ls
 ql:qs.length=w
 ll:ls.length=w
 jP:qH tp pr n ls.length q R no u all od x lM lD GM SD pm cs mo ring
 st:AZ T fr r.p qs tp pr n ls r.s R no u.txg u.note all od x S
 dm:Bz r.a lM u.txg u.note (q - 10) GM SM M
 dd:Bz r.d lD u.txg u.note (q - 10) GD SD Dn
 no:1<=no/\no<=1+22528*i
 tx:u.txg<=1+i
 ws:R.ws.length<=112640*i
def Inv (T:TypeId)(fr:Nat×Nat)(tp:Tp)(pr:Bool)(n q w i:Nat)(r:Rg)(X:Chunk):Prop:=∃qs ls R no u all od x lM lD GM SM GD SD pm cs mo ring S M Dn Q,VJ T fr tp pr n q w i r qs ls R no u all od x lM lD GM SM GD SD pm cs mo ring S M Dn Q/\X=S++(M++(Dn++Q))
def HK (T:TypeId)(fr:Nat×Nat)(tp:Tp)(pr:Bool)(n q w i:Nat)(r:Rg)(X:Chunk):Prop:=∃qs ls R no u all od x lM lD GM SM GD SD pm cs mo ring S M Dn Q,VJ T fr tp pr n q w i r qs ls R no u all od x lM lD GM SM GD SD pm cs mo ring S M Dn Q/\lM.map au.nv=lD.map au.nv/\X=S++(M++(Dn++Q))
theorem HK.inv {T:TypeId}{fr:Nat×Nat}{tp:Tp}{pr:Bool}{n q w i:Nat}{r:Rg}{X:Chunk}(h:HK T fr tp pr n q w i r X):Inv T fr tp pr n q w i r X:=by
 obtain ⟨qs,ls,R,no,u,all,od,rm,lM,lD,GM,SM,GD,SD,pm,cs,mo,ring,S,M,Dn,Q,h, -,rfl⟩:=h
 exact ⟨qs,ls,R,no,u,all,od,rm,lM,lD,GM,SM,GD,SD,pm,cs,mo,ring,S,M,Dn,Q,h,rfl⟩
section
variable {g:FuncId}{args:List Value}{rc S M A Z:Chunk}{PS PM Iv:Chunk->Prop}
theorem w7 (c:Ct g args [rc,S,M,A] fun u Bs=>u = .bool true/\∃S' M',PS S'/\PM M'/\Bs=[rc,S',M',A])(k:∀S' M',PS S'->PM M'->Iv (S'++(M'++Z))):Ct g args [rc,S++(M++Z),A] fun u Bs=>u = .bool true/\∃X',Iv X'/\Bs=[rc,X',A]:=by
 refine c.on (Rs:=Z) bS ?_
 rintro u Bs ⟨hu,S',M',h1,h2,rfl⟩
 exact ⟨_,[],⟨hu,_,k _ _ h1 h2,rfl⟩,bS⟩
theorem eA (c:Ct g args [rc,S,M] fun u Bs=>u = .bool true/\∃S' M',PS S'/\PM M'/\Bs=[rc,S',M'])(k:∀S' M',PS S'->PM M'->Iv (S'++(M'++Z))):Ct g args [rc,S++(M++Z),A] fun u Bs=>u = .bool true/\∃X',Iv X'/\Bs=[rc,X',A]:=by
 refine c.on (Rs:=Z++A) bS ?_
 rintro u Bs ⟨hu,S',M',h1,h2,rfl⟩
 exact ⟨_,[],⟨hu,_,k _ _ h1 h2,rfl⟩,bS⟩
theorem Bf (c:Ct g args [rc,S,M] fun u Bs=>u = .bool true/\Bs=[rc,S,M]):Ct g args [rc,S++(M++Z)] fun u Bs=>u = .bool true/\Bs=[rc,S++(M++Z)]:=by
 refine c.on (Rs:=Z) bS ?_
 rintro u Bs ⟨hu,rfl⟩
 exact ⟨_,[],⟨hu,rfl⟩,bS⟩
end
section
variable {T:TypeId}{fr:Nat×Nat}{tp:Tp}{pr:Bool}{n q w i:Nat}(cg:Cg tp pr n q w){r:Rg}{qs:List Nat}{ls:List (Option Lv)}{R:Rk}{no:Nat}{u:Ub}{all:List (Int×Ob)}{od:List (Int×List Pt)}{rm:Rm}{lM lD:List au}{GM SM GD SD:List UInt8}{pm:List dt}{cs:List (Int×Ob)}{mo:Ob}{ring:Nat->Option Ub}{S M Dn Q:Chunk}
 (h:VJ T fr tp pr n q w i r qs ls R no u all od rm lM lD GM SM GD SD pm cs mo ring S M Dn Q)
include h
theorem VJ.LZ:Inv T fr tp pr n q w (i+1) r (S++(M++(Dn++Q))):=by
 have h1:=h.no
 have h2:=h.tx
 have h3:=h.ws
 exact ⟨qs,ls,R,no,u,all,od,rm,lM,lD,GM,SM,GD,SD,pm,cs,mo,ring,S,M,Dn,Q,{ h with no:=by omega,tx:=by omega,ws:=by omega },rfl⟩
theorem VJ.chg {EU:List (Int×Ob)}{l':List au}{S' M':Chunk}(hs:AZ T fr r.p qs tp pr n ls r.s R no u.txg u.note EU od rm S')(hm:Bz r.a l' u.txg u.note (q - 10) GM SM M')(hr:bF pm EU l')(hu:aT l'+10<=q):Inv T fr tp pr n q w (i+1) r (S'++(M'++(Dn++Q))):=by
 have h1:=h.no
 have h2:=h.tx
 have h3:=h.ws
 exact ⟨qs,ls,R,no,u,EU,od,rm,l',lD,GM,SM,GD,SD,pm,cs,mo,ring,S',M',Dn,Q,{ h with jP:=h.jP.aco hr hu,st:=hs,dm:=hm,no:=by omega,tx:=by omega,ws:=by omega },rfl⟩
theorem VJ.lw (cg:Cg tp pr n q w):(324<=n/\n<=2048)/\(1<=ls.length/\ls.length<=5)/\(pr=true->3<=ls.length):=⟨⟨cg.ok.hn.1,cg.n2⟩,by rw [h.ll];exact cg.ok.hw,by rw [h.ll];exact cg.ok.hp⟩
theorem VJ.f (cg:Cg tp pr n q w):StF qs tp pr n q ls R pm all lM:=by
 obtain ⟨h1,h2,h3⟩:=h.lw cg
 exact ⟨by rw [h.ll];exact cg.ok,cg.n2,h.lo.ok h.jP.dk.qt.sz,h.lo.all,h.jP.dk.qt.on,h.jP.rel,fun o N ho=>HD h.lo.i h1.1 h2 h3 (fun i hi=>(h.jP.dk.qt.sz i hi).2) h.jP.dk.po ho,by rw [h.ll];exact cg.qe⟩
include cg
theorem Rw (rg:Nat)(k z x y:Int)(nt:Nat)(m:Nat)(hm:m<=1048576)(bs:List UInt8)(dr:bs.length=m)(gh:Option Addr)(cb:Nat)(A:Chunk)(hA:Rd A 1 (.slice gh m cb) m (ak bs))(Hd:m<=cb) :
  Ct 17 [ptr rg,nR 0 k z x y nt (.slice gh m cb)] [Rg.ch rg r,S++(M++(Dn++Q)),A] fun u Bs=>u = .bool true/\∃X',Inv T fr tp pr n q w (i+1) r X'/\Bs=[Rg.ch rg r,X',A]:=by
 have f:=h.f cg
 have hq:=cg.q2
 have aQ:=h.jP.rel.dl
 by_cases hb:¬(1<=k/\k<=112)\/x<0\/65536<x\/65536 - x<m
 ·refine w7 (w6 rg r.p r.s r.a r.d r.vQ S M A k z x y 1 nt (fun S'=>S'=S) (fun M'=>M'=M) bs m dr gh cb hA hm (fun B' adc cc hB=>A0 h.st k x adc m cc B' hb) (Bb k x gh m cb A hb)) ?_
  rintro _ _ rfl rfl
  exact h.LZ
 obtain ⟨k,rfl⟩:∃j:Nat,k=j:=⟨k.toNat,by omega⟩
 obtain ⟨x,rfl⟩:∃j:Nat,x=j:=⟨x.toNat,by omega⟩
 have hk:1<=k/\k<=112:=by omega
 have hx:x+m<=65536:=by omega
 cases hf:cA lM k (max (kU lM k).b.length (x+m)) (q - 10) with
 | false =>
  refine w7 (w6 rg r.p r.s r.a r.d r.vQ S M A k z x y 3 nt (fun S'=>S'=S) (fun M'=>M'=M) bs m dr gh cb hA hm (fun B' adc cc hB=>xQ h.st f k hk x m hx adc cc B' hf) (xS h.dm aQ hq k hk x m hx A gh cb bs dr hA Hd hf)) ?_
  rintro _ _ rfl rfl
  exact h.LZ
 | true =>
  refine w7 (w6 rg r.p r.s r.a r.d r.vQ S M A k z x y 0 nt _ _ bs m dr gh cb hA hm (fun B' adc cc hB=>Rn h.st f k hk x m hx B' adc cc bs dr hB.rd (by have:=hB.dN;omega) hf) (Rt h.dm aQ hq k hk x m hx A gh cb bs dr hA Hd hf)) ?_
  rintro S' M' ⟨bW,h1,h2⟩ ⟨v,h3⟩
  obtain ⟨h4,h5⟩:=f.rel.write hk dr hx (h2.fn (k:=k) (by rw [ig,if_pos rfl])) h1 v h2.kn hf
  exact h.chg h2 h3 h4 (by have:=cg.q10;omega)
theorem Rx (rg:Nat)(k z x y:Int)(nt:Nat)(b:Value)(A:Chunk) :
  Ct 17 [ptr rg,nR 1 k z x y nt b] [Rg.ch rg r,S++(M++(Dn++Q)),A] fun u Bs=>u = .bool true/\∃X',Inv T fr tp pr n q w (i+1) r X'/\Bs=[Rg.ch rg r,X',A]:=by
 have f:=h.f cg
 have hq:=cg.q2
 have aQ:=h.jP.rel.dl
 have bu:=h.jP.rel.size k
 by_cases hb:y<0\/65536<y
 ·refine eA (mS rg r.p r.s r.a r.d r.vQ S M k z x y 1 nt b (fun S'=>S'=S) (fun M'=>M'=M) (A7 h.st k y hb) (qI k y (.inr hb))) ?_
  rintro _ _ rfl rfl
  exact h.LZ
 obtain ⟨y,rfl⟩:∃j:Nat,y=j:=⟨y.toNat,by omega⟩
 have hy:y<=65536:=by omega
 by_cases hk:1<=k/\k<=112
 ·cases hl:aH all k with
  | none =>
   have hd:=h.jP.rel.isN hl
   have hz:=fe hk hl
   have c:=sQ h.st k y hy (by rw [hz];decide)
   rw [hz] at c
   refine eA (mS rg r.p r.s r.a r.d r.vQ S M k z x y 130 nt b (fun S'=>S'=S) (fun M'=>M'=M) c (Fc h.dm aQ hq k hk y hy hd)) ?_
   rintro _ _ rfl rfl
   exact h.LZ
  | some o =>
   obtain ⟨d,hd, -⟩:=h.jP.rel.isS hl
   cases hf:cA lM k y (q - 10) with
   | false =>
    refine eA (mS rg r.p r.s r.a r.d r.vQ S M k z x y 3 nt b (fun S'=>S'=S) (fun M'=>M'=M) (xR h.st f k hk y hy hl hf) (xT h.dm aQ hq k hk y hy hd hf)) ?_
    rintro _ _ rfl rfl
    exact h.LZ
   | true =>
    refine eA (mS rg r.p r.s r.a r.d r.vQ S M k z x y 0 nt b _ _ (Ro h.st f k hk y hy hl hf) (Ru h.dm aQ hq k hk y hy hd hf)) ?_
    rintro S' M' ⟨bW,h1,h2⟩ ⟨v,h3⟩
    obtain ⟨h4,h5⟩:=f.rel.acs hk hl hd hy (h2.fn (k:=k) (by rw [ig,if_pos rfl])) h1 v h2.kn hf
    exact h.chg h2 h3 h4 (by have:=cg.q10;omega)
 ·have hz:=dS (all:=all) hk
  have c:=sQ h.st k y hy (by rw [hz];decide)
  rw [hz] at c
  refine eA (mS rg r.p r.s r.a r.d r.vQ S M k z x y 1 nt b (fun S'=>S'=S) (fun M'=>M'=M) c (qI k y (.inl hk))) ?_
  rintro _ _ rfl rfl
  exact h.LZ
theorem VK (rg:Nat)(k z x y:Int)(nt:Nat)(b:Value)(A:Chunk) :
  Ct 17 [ptr rg,nR 2 k z x y nt b] [Rg.ch rg r,S++(M++(Dn++Q)),A] fun u Bs=>u = .bool true/\∃X',Inv T fr tp pr n q w (i+1) r X'/\Bs=[Rg.ch rg r,X',A]:=by
 have f:=h.f cg
 have hq:=cg.q2
 have aQ:=h.jP.rel.dl
 by_cases hz:1<=z/\z<=112
 ·obtain ⟨z,rfl⟩:∃j:Nat,z=j:=⟨z.toNat,by omega⟩
  have Pz:1<=z/\z<=112:=by omega
  by_cases hk:1<=k/\k<=112
  ·cases hl:aH all k with
   | none =>
    have hd:=h.jP.rel.isN hl
    have hs:=fe hk hl
    have c:=wZ h.st k z hz (by rw [hs];decide)
    rw [hs] at c
    refine eA (nG rg r.p r.s r.a r.d r.vQ S M k z x y 130 nt b (fun S'=>S'=S) (fun M'=>M'=M) c (HJ h.dm aQ hq k hk z Pz hd)) ?_
    rintro _ _ rfl rfl
    exact h.LZ
   | some o =>
    obtain ⟨d,hd, -, -,hr⟩:=h.jP.rel.isS hl
    by_cases jE:k=z
    ·subst jE
     refine eA (nG rg r.p r.s r.a r.d r.vQ S M z z x y 0 nt b (fun S'=>S'=S) (fun M'=>M'=M) (A8 h.st z hz hl) (Bc h.dm aQ hq z Pz hd)) ?_
     rintro _ _ rfl rfl
     exact h.LZ
    ·cases hf:cA lM z d.b.length (q - 10) with
     | false =>
      refine eA (nG rg r.p r.s r.a r.d r.vQ S M k z x y 3 nt b (fun S'=>S'=S) (fun M'=>M'=M) (Ba h.st f k z hk hz jE hl (by rw [hr.size];exact hf)) (Be h.dm aQ hq k hk z Pz jE hd hf)) ?_
      rintro _ _ rfl rfl
      exact h.LZ
     | true =>
      refine eA (nG rg r.p r.s r.a r.d r.vQ S M k z x y 0 nt b _ _ (Vr h.st f k z hk hz jE hl (by rw [hr.size];exact hf)) (VE h.dm aQ hq k hk z Pz jE hd hf)) ?_
      rintro S' M' ⟨bW,h1,h2⟩ ⟨v,h3⟩
      obtain ⟨h4,h5⟩:=f.rel.fork Pz hl hd (h2.fn (k:=z) (by rw [ig,if_pos rfl])) h1 v h2.kn hf
      exact h.chg h2 h3 h4 (by have:=cg.q10;omega)
  ·have hs:=dS (all:=all) hk
   have c:=wZ h.st k z hz (by rw [hs];decide)
   rw [hs] at c
   refine eA (nG rg r.p r.s r.a r.d r.vQ S M k z x y 1 nt b (fun S'=>S'=S) (fun M'=>M'=M) c (sR k z (.inl hk))) ?_
   rintro _ _ rfl rfl
   exact h.LZ
 ·refine eA (nG rg r.p r.s r.a r.d r.vQ S M k z x y 1 nt b (fun S'=>S'=S) (fun M'=>M'=M) (EW h.st k z hz) (sR k z (.inr hz))) ?_
  rintro _ _ rfl rfl
  exact h.LZ
omit cg in
theorem VL (rg:Nat)(k z x y:Int)(nt:Nat)(b:Value)(A:Chunk) :
  Ct 17 [ptr rg,nR 3 k z x y nt b] [Rg.ch rg r,S++(M++(Dn++Q)),A] fun u Bs=>u = .bool true/\∃X',Inv T fr tp pr n q w (i+1) r X'/\Bs=[Rg.ch rg r,X',A]:=by
 have aQ:=h.jP.rel.dl
 have c:=Vp h.st k
 by_cases hk:1<=k/\k<=112
 ·rcases VC h.dm aQ k hk with ⟨hd,c2⟩ | ⟨⟨d,hd⟩,c2⟩
  ·have hl:aH all k=none:=by
    rcases h.jP.rel.keys k with ⟨c, -⟩ | ⟨o,d, -,c, -⟩
    ·exact c
    ·rw [hd] at c;cases c
   rw [fe hk hl,if_neg (show ¬((0:Int),(130:Int)).2=0 by decide)] at c
   refine eA (AN rg r.p r.s r.a r.d r.vQ S M k z x y 130 nt b _ (fun M'=>M'=M) c c2) ?_
   rintro S' _ h1 rfl
   exact h.chg h1 h.dm h.jP.rel h.jP.um
  ·obtain ⟨o,hl⟩:∃o,aH all k=some o:=by
    rcases h.jP.rel.keys k with ⟨-,c⟩ | ⟨o,d,c, -⟩
    ·rw [hd] at c;cases c
    ·exact ⟨o,c⟩
   rw [eN hk hl,if_pos rfl] at c
   refine eA (AN rg r.p r.s r.a r.d r.vQ S M k z x y 0 nt b _ _ c c2) ?_
   rintro S' M' h1 ⟨j,d',h2,rfl,h3⟩
   exact h.chg h1 h3 (h.jP.rel.del h2) (by have:=yV lM j;have:=h.jP.um;omega)
 ·rw [dS hk,if_neg (show ¬((0:Int),(1:Int)).2=0 by decide)] at c
  refine eA (AN rg r.p r.s r.a r.d r.vQ S M k z x y 1 nt b _ (fun M'=>M'=M) c (E3 k hk)) ?_
  rintro S' _ h1 rfl
  exact h.chg h1 h.dm h.jP.rel h.jP.um
end
section
variable {T:TypeId}{fr:Nat×Nat}{p:Nat}{qs:List Nat}{tp:Tp}{pr:Bool}{n q:Nat}{ls:List (Option Lv)}{s:Nat}{R:Rk}{no txg note:Nat}{all:List (Int×Ob)}{od:List (Int×List Pt)}{rm:Rm}{S:Chunk}{pm:List dt}{l:List au}
theorem L7 (h:AZ T fr p qs tp pr n ls s R no txg note all od rm S)(f:StF qs tp pr n q ls R pm all l)(ha:Q1 (bD pr ls.length n) (aN pr ls.length 1024) q txg rm pm)(tG:dU pr ls.length n R pm)(U4:∀x,x∈bc od↔∃e∈pm,e.x=x)(GO:∀e∈od,e.2.length<=200)(mw:pm.length<=q)(hu:aT l+10<=q)(ht:txg+1<=281474976710656)(hw:R.ws.length<=800000000000)(nt:Nat)(FB:nt<18446744073709551616) :
  Ct 51 [ptr s,.int .u64 nt] [S] fun v Bs=>v = .int .i64 0/\∃S',(∃ks os ds P2 mo fs,CmR pr ls n txg all od ⟨R,rm,[]⟩ ks os ds P2 mo fs/\AZ T fr p qs tp pr n ls s (((P2.R.run (iH ls)).run (oM n ls ⟨11,txg+1,nt,mo.root⟩)).run (iH ls)) no (txg+1) nt os ds ((br (txg+1) P2.x (aN pr ls.length 1024) fs).sync ((txg+1:Nat):Int)) S')/\Bs=[S']:=by
 obtain ⟨t,al,ra,rd,C,V,LA,CA,VA,Ld,CD,VD,Al,hV,hC,hA,hG,hD,hP,hL,rfl⟩:=h
 have hz:=iB pr f.ok.hw ⟨f.ok.hn.1,f.n2⟩
 have h4q:4*q<=bD pr ls.length n / aN pr ls.length 1024:=by have:=f.q;omega
 have Sb:bD pr ls.length n / aN pr ls.length 1024<=10240:=Nat.le_trans (Nat.div_le_self _ _) hz.2
 have hn:=LW f.rel
 rw [hG.keys] at hn
 have s7:=ha.dl
 have hps:jF qs pr ls n ⟨R,rm,[]⟩ (10+mY all (LA.map (·.1))):=⟨f.on,f.ho,by simp only;omega,by simp only;omega,by simp only [List.length_nil];omega⟩
 have Z7:wH (aN pr ls.length 1024) rm od:=by
  have mu:=Ra (od:=od) tG fun x hx=>(U4 x).1 hx
  have he:∀x∈bc od,aM (aN pr ls.length 1024) x∈rm.D/\aM (aN pr ls.length 1024) x∉rm.W:=fun x hx=>by
   obtain ⟨e,h1,rfl⟩:=(U4 x).1 hx
   exact ha.hd e h1
  exact ⟨mu.top,mu.at_,fun x hx=>(he x hx).1,fun x hx=>(he x hx).2,mu.inj⟩
 have c:=QH T fr p qs t 11 tp pr n ls no V hV f.ok f.n2 f.hall s al ra rd txg note ⟨R,rm,[]⟩ rfl LA all CA VA hA hG (fun e he=>⟨(f.rel.each e he).1,(f.rel.each e he).2.1⟩) (fun e he=>by
  obtain ⟨-, -,h3,h4,h5⟩:=f.rel.each e he
  rw [Xi]
  exact ⟨h3.aak tG,h4,h5⟩) Ld od CD VD hD hP GO (aN pr ls.length 1024) rfl Z7 ha.ok nt dZ FB ht hps C Al hC hL
 refine (LI s nt t (ptr al) ra rd txg note _ _ _ _ _ _ _ _ _ (fun Bs hB => ?_) c).on (Rs:=[]) bS ?_
 ·obtain ⟨ks,os,ds,P2,mo,fs, -,r6,r7,LO,LP,C6,VO,C7,VP,C',jN, -, -, -, -, -, -, -,rfl⟩:=hB
  exact ⟨_,_,_,_,_,_,_,_,_,rfl⟩
 ·rintro u Bs ⟨rfl,ks,os,ds,P2,mo,fs,h1,r6,r7,LO,LP,C6,VO,C7,VP,C',jN,k1,k2,k3,k4,k5,k6,k7,rfl⟩
  exact ⟨_,[],⟨rfl,_,⟨ks,os,ds,P2,mo,fs,h1,t,al,r6,r7,C',V,LO,C6,VO,LP,C7,VP,jN,hV,k6,k1,k2,k3,k4,k7,rfl⟩,rfl⟩,bS⟩
theorem AZ.rk (h:AZ T fr p qs tp pr n ls s R no txg note all od rm S):R.Ok/\qs.length=R.ds.length:=by
 obtain ⟨t,al,ra,rd,C,V,LA,CA,VA,Ld,CD,VD,Al,hV,hC, -⟩:=h
 exact ⟨hC.ok,hC.len⟩
theorem Ry {rg d a:Nat}{vQ:Value}{lM lD:List au}{room:Nat}{GM SM GD SD:List UInt8}{M Dn:Chunk}(h:Bz a lM txg note room GM SM M)(h':Bz d lD txg note room GD SD Dn) :
  Ct 54 [ptr rg] [[(rg,l7 p vQ s a d)],M,Dn] fun _ Bs=>∃M' D',Bz a lM txg note room GM GM M'/\Bz d lD txg note room GD GM D'/\Bs=[[(rg,l7 p vQ s a d)],M',D']:=by
 obtain ⟨ad,c,D,O,adG,cG,DG,bI,cS,DS,h1,h2,h3,h4,h5,rfl⟩:=h
 obtain ⟨ad2,c2,D2,O2,acv,cG2,DG2,afa,cS2,DS2,g1,g2,g3,g4,g5,rfl⟩:=h'
 refine (Lx rg p s a d vQ (.slice ad lM.length c) (.slice ad2 lD.length c2) txg note room txg note room (.slice bI 22528 cS) (.slice acv 22528 cG2) (.slice afa 22528 cS2) adG cG DG GM h4.rd (Qo a (.slice ad lM.length c) txg note room GM adG cG DG h4 (.slice bI 22528 cS))).on (Rs:=D++(O++(DS++(D2++(O2++(DG2++DS2)))))) bS ?_
 rintro u Bs ⟨fV,cT,DT,WV,cU,DU,k1,k2,rfl⟩
 exact ⟨_,DS++DS2,⟨_,_,⟨ad,c,D,O,adG,cG,DG,fV,cT,DT,h1,h2,h3,h4,k1,rfl⟩,⟨ad2,c2,D2,O2,acv,cG2,DG2,WV,cU,DU,g1,g2,g3,g4,k2,rfl⟩,rfl⟩,bS⟩
end
section
variable {T:TypeId}{fr:Nat×Nat}{tp:Tp}{pr:Bool}{n q w i:Nat}(cg:Cg tp pr n q w)(hi:i<=1100000){r:Rg}{qs:List Nat}{ls:List (Option Lv)}{R:Rk}{no:Nat}{u:Ub}{all:List (Int×Ob)}{od:List (Int×List Pt)}{rm:Rm}{lM lD:List au}{GM SM GD SD:List UInt8}{pm:List dt}{cs:List (Int×Ob)}{mo:Ob}{ring:Nat->Option Ub}{S M Dn Q:Chunk}
 (h:VJ T fr tp pr n q w i r qs ls R no u all od rm lM lD GM SM GD SD pm cs mo ring S M Dn Q)
include cg hi h
theorem yX (rg:Nat)(k z x y:Int)(nt:Nat)(FB:nt<18446744073709551616)(b:Value)(A:Chunk) :
  Ct 17 [ptr rg,nR 7 k z x y nt b] [Rg.ch rg r,S++(M++(Dn++Q)),A] fun u Bs=>u = .bool true/\∃r' X',HK T fr tp pr n q w (i+1) r' X'/\Bs=[Rg.ch rg r',X',A]:=by
 have f:=h.f cg
 obtain ⟨hn,hw,hp⟩:=h.lw cg
 have aQ:=h.jP.rel.dl
 have uo:=h.tx
 have yo:=h.ws
 have eD:=h.no
 have e:aT (lM.map (lO (u.txg+1)))=aT lM:=wY ..
 have sZ:mO (lM.map (lO (u.txg+1))):=⟨by rw [List.length_map];exact aQ.jY,fun o ho=>by
  obtain ⟨o',h1,rfl⟩:=List.mem_map.1 ho
  rw [show (lO (u.txg+1) o').b=o'.b from (dq _ o' 64).2.1];exact aQ.sm o' h1,fun o ho=>by
  obtain ⟨o',h1,rfl⟩:=List.mem_map.1 ho
  rw [show (lO (u.txg+1) o').no=o'.no from (dq _ o' 64).1];exact aQ.no o' h1⟩
 refine (LY rg r.p r.s r.a r.d r.vQ S M k z x y nt b _ _ (fun M' d' D'=>∃l',l'.map au.nv=(lM.map (lO (u.txg+1))).map au.nv/\Bz d' l' (u.txg+1) nt (q - 10) GM GM D') (LX h.dm aQ nt oZ) (fun M' hM=>(Vy hM sZ).to fun v Bs ⟨d,l',D',h1,h2,h3,h4⟩=>⟨d,D',h1,⟨l',h2,h3⟩,h4⟩)
  (L7 h.st f h.jP.al h.jP.dk.po h.jP.oe h.jP.ol h.jP.dk.jY h.jP.um oZ oZ nt FB)).on (Rs:=Dn++(Q++A)) bS ?_
 rintro v Bs ⟨hv,S',M',d',D',⟨ks,os,ds,P2,MK,fs,h1,h2⟩,h3,⟨l',h4,h5⟩,rfl⟩
 obtain ⟨j1,h6,h7⟩:=h.jP.HG h.lo.i hn hw hp (note:=nt) oZ FB h1
 have hk:=h2.rk
 have Gb:=qF h.lo.i hk.1 (by rw [<-hk.2,h.ql,h.ll]) ((h7.run _).run _).2
 refine ⟨[Rg.ch rg ⟨r.p,r.vQ,r.s,r.a,d'⟩,S'++(M'++(D'++Q)),A],Dn,⟨hv,⟨r.p,r.vQ,r.s,r.a,d'⟩,_,⟨qs,ls,_,no,_,os,ds,_,lM.map (lO (u.txg+1)),l',GM,GM,GM,GM,j1,os,MK,_,S',M',D',Q,⟨h.vq,h.lo,h.ql,h.ll,h6.nvD h4,h2,h3,h5,by omega,by simp only;omega,by rw [Gb];exact Nat.zero_le _⟩,h4.symm,rfl⟩,rfl⟩,bS⟩
theorem VM (rg:Nat)(k z x y:Int)(nt:Nat)(m:Nat)(hm:m<=1048576)(bs:List UInt8)(dr:bs.length=m)(gh:Option Addr)(cb:Nat)(A:Chunk)(hA:Rd A 1 (.slice gh m cb) m (ak bs))(Hd:m<=cb) :
  Ct 17 [ptr rg,nR 9 k z x y nt (.slice gh m cb)] [Rg.ch rg r,S++(M++(Dn++Q)),A] fun u Bs=>u = .bool true/\∃X',Inv T fr tp pr n q w (i+1) r X'/\Bs=[Rg.ch rg r,X',A]:=by
 have f:=h.f cg
 obtain ⟨hn,hw,hp⟩:=h.lw cg
 have yo:=h.ws
 have eD:=h.no
 have uo:=h.tx
 by_cases hx:0<=x/\x+m<=22528
 ·obtain ⟨x,rfl⟩:∃j:Nat,x=j:=⟨x.toNat,by omega⟩
  have yu:x+m<=22528:=by omega
  obtain ⟨g1,g2,g3,g4,g5⟩:=h.jP.ae9 h.lo.i hn hw hp dr yu ⟨eD.1,by omega⟩
  refine w7 (Jq rg r.p r.s r.a r.d r.vQ S M A k z x y 0 nt (.slice gh m cb) _ _ (Vt h.st f x m bs dr yu ⟨eD.1,by omega⟩ oZ A gh cb hA Hd g2) (Vw h.dm x bs m dr yu h.jP.dk.lg.len A gh cb hA)) ?_
  intro S' M' h1 h2
  exact ⟨qs,ls,_,_,u,all,od,rm,lM,lD,sL GM x bs,SM,GD,SD,pm,cs,mo,ring,S',M',Dn,Q,⟨h.vq,h.lo,h.ql,h.ll,g1,h1,h2,h.dd,by omega,by omega,by omega⟩,rfl⟩
 ·refine w7 (Jq rg r.p r.s r.a r.d r.vQ S M A k z x y 1 nt (.slice gh m cb) (fun S'=>S'=S) (fun M'=>M'=M) (EZ h.st x gh m cb A oZ hx) (E7 h.dm x gh m cb A oZ)) ?_
  rintro _ _ rfl rfl
  exact h.LZ
omit hi in
theorem Rz (rg:Nat)(k z x y:Int)(nt:Nat)(b:Value)(A:Chunk) :
  Ct 17 [ptr rg,nR 10 k z x y nt b] [Rg.ch rg r,S++(M++(Dn++Q)),A] fun u Bs=>u = .bool true/\∃X',Inv T fr tp pr n q w (i+1) r X'/\Bs=[Rg.ch rg r,X',A]:=by
 have f:=h.f cg
 obtain ⟨hn,hw,hp⟩:=h.lw cg
 have eD:=h.no
 have uo:=h.tx
 have g:=h.jP.flush h.lo.i hn hw hp
 refine (Rv rg r.p r.s r.a r.d r.vQ S M Dn k z x y nt b _ _ _ (Ry h.dm h.dd) (Vu h.st f (f.on.run _))).on (Rs:=Q++A) bS ?_
 rintro v Bs ⟨hv,S',M',D',h1,h2,h3,rfl⟩
 have hk:=h1.rk
 have Gb:=qF h.lo.i hk.1 (by rw [<-hk.2,h.ql,h.ll]) f.on.2
 exact ⟨[Rg.ch rg r,S'++(M'++(D'++Q)),A],[],⟨hv,_,⟨qs,ls,_,no,u,all,od,rm,lM,lD,GM,GM,GD,GM,pm,cs,mo,ring,S',M',D',Q,⟨h.vq,h.lo,h.ql,h.ll,g,h1,h2,h3,by omega,by omega,by rw [Gb];exact Nat.zero_le _⟩,rfl⟩,rfl⟩,bS⟩
end
section
variable {T:TypeId}{fr:Nat×Nat}{tp:Tp}{pr:Bool}{n q w i:Nat}(cg:Cg tp pr n q w){r:Rg}{qs:List Nat}{ls:List (Option Lv)}{R:Rk}{no:Nat}{u:Ub}{all:List (Int×Ob)}{od:List (Int×List Pt)}{rm:Rm}{lM lD:List au}{GM SM GD SD:List UInt8}{pm:List dt}{cs:List (Int×Ob)}{mo:Ob}{ring:Nat->Option Ub}{S M Dn Q:Chunk}
 (h:VJ T fr tp pr n q w i r qs ls R no u all od rm lM lD GM SM GD SD pm cs mo ring S M Dn Q)
include cg h
omit cg in
theorem VQ (rg:Nat)(k z x y:Int)(nt:Nat)(b:Value):Ct 18 [ptr rg,nR 5 k z x y nt b] [Rg.ch rg r,S,M] fun u Bs=>u = .bool true/\Bs=[Rg.ch rg r,S,M]:=by
 have c:=Vq h.st k
 rw [h.jP.rel.size] at c
 exact VH rg r.p r.s r.a r.d r.vQ S M k z x y _ _ nt b c (Vz h.dm h.jP.rel.dl k)
theorem VT (rg:Nat)(k z x y:Int)(hx:x<9223372036854775808/\y<9223372036854775808)(nt:Nat)(b:Value):Ct 18 [ptr rg,nR 4 k z x y nt b] [Rg.ch rg r,S,M] fun u Bs=>u = .bool true/\Bs=[Rg.ch rg r,S,M]:=by
 have f:=h.f cg
 have aQ:=h.jP.rel.dl
 have bad:∀e:Int,Ct 26 [ptr r.s,.int .i64 k,.int .i64 x,.int .i64 y] [S] (fun u Bs=>u = .tuple #[.slice none 0 0,.int .i64 e]/\Bs=[S])->Ct 56 [ptr r.a,.int .i64 k,.int .i64 x,.int .i64 y] [M] (fun u Bs=>u = .tuple #[.slice none 0 0,.int .i64 e]/\Bs=[M])->Ct 18 [ptr rg,nR 4 k z x y nt b] [Rg.ch rg r,S,M] fun u Bs=>u = .bool true/\Bs=[Rg.ch rg r,S,M]:=fun e h1 h2=>by
  refine Js rg r.p r.s r.a r.d r.vQ S M k z x y e nt b 0 oZ [] rfl (h1.on (Rs:=[]) bS ?_) (h2.to ?_)
  ·rintro v Bs ⟨rfl,rfl⟩
   exact ⟨[[],S],[],⟨none,0,[],rfl,az.nil _ _,rfl⟩,bS⟩
  ·rintro v Bs ⟨rfl,rfl⟩
   exact ⟨none,0,rfl,Rd.nil _ _,rfl⟩
 by_cases hb:x<0\/y<0
 ·exact bad 1 (EX h.st k x y hb) (sS k x y (.inr hb))
 obtain ⟨x,rfl⟩:∃j:Nat,x=j:=⟨x.toNat,by omega⟩
 obtain ⟨y,rfl⟩:∃j:Nat,y=j:=⟨y.toNat,by omega⟩
 by_cases hk:1<=k/\k<=112
 ·cases hl:ey lM k with
  | none =>
   have hz:=qj hk hl
   rw [<-h.jP.rel.size] at hz
   have c:=w5 h.st k x y (by rw [hz];decide)
   rw [hz] at c
   exact bad 130 c (HI h.dm aQ k hk x y hl)
  | some d =>
   have Bm:=aQ.sm d (fh hl).1
   refine Js rg r.p r.s r.a r.d r.vQ S M k z x y 0 nt b (dB d.b.length x y) (by unfold dB;omega) ((d.b.drop x).take y) (by unfold dB;rw [List.length_take,List.length_drop]) (Vs h.st f k hk x y oZ hl) (VB h.dm aQ k hk x y oZ hl)
 ·have hz:=dS (all:=all) hk
  have c:=w5 h.st k x y (by rw [hz];decide)
  rw [hz] at c
  exact bad 1 c (sS k x y (.inl hk))
theorem RA (rg:Nat)(k z x y:Int)(nt:Nat)(b:Value):Ct 18 [ptr rg,nR 6 k z x y nt b] [Rg.ch rg r,S,M] fun u Bs=>u = .bool true/\Bs=[Rg.ch rg r,S,M]:=by
 have f:=h.f cg
 have aQ:=h.jP.rel.dl
 have e:=h.jP.rel.size k
 by_cases hb:(iE lM k).2=0
 ·have hk:1<=k/\k<=112:=Classical.byContradiction fun c=>by rw [rR c] at hb;cases hb
  cases hl:ey lM k with
  | none=>rw [qj hk hl] at hb;cases hb
  | some d =>
   refine Fe rg r.p r.s r.a r.d r.vQ S M k z x y 0 nt b (fun v E=>∃ad c,v = .slice ad (mb d.b.length 0 (aV d nt) []).length c/\Rd E 2 v (mb d.b.length 0 (aV d nt) []).length ((mb d.b.length 0 (aV d nt) []).flatMap Sp.lay)) ((Rq h.st f k hk nt hl).to ?_) ((Rr h.dm aQ k hk nt hl).to ?_) ?_
   ·rintro v Bs ⟨ad,c,E,rfl,h2,rfl⟩
    exact ⟨_,E,rfl,⟨ad,c,rfl,h2.rd⟩,rfl⟩
   ·rintro v Bs ⟨ad,c,E,rfl,h2,rfl⟩
    exact ⟨_,E,rfl,⟨ad,c,rfl,h2.rd⟩,rfl⟩
   ·rintro _ E1 _ E2 ⟨iK,c1,rfl,h1⟩ ⟨ad2,c2,rfl,h2⟩
    exact IS _ _ rfl E1 E2 iK ad2 c1 c2 h1 h2
 ·have c1:=EY h.st k nt (by rw [e];exact hb)
  rw [e] at c1
  refine Fe rg r.p r.s r.a r.d r.vQ S M k z x y (iE lM k).2 nt b (fun v E=>v = .slice none 0 0/\E=[]) (c1.on (Rs:=[]) bS ?_) ((Fb h.dm aQ k nt hb).on (Rs:=[]) bS ?_) ?_
  ·rintro v Bs ⟨rfl,rfl⟩
   exact ⟨[[],S],[],⟨_,[],rfl,⟨rfl,rfl⟩,rfl⟩,bS⟩
  ·rintro v Bs ⟨rfl,rfl⟩
   exact ⟨[[],M],[],⟨_,[],rfl,⟨rfl,rfl⟩,rfl⟩,bS⟩
  ·rintro _ E1 _ E2 ⟨rfl,rfl⟩ ⟨rfl,rfl⟩
   exact IS [] _ rfl [] [] none none 0 0 (Rd.nil _ _) (Rd.nil _ _)
theorem VU (rg:Nat)(k z x y:Int)(hy:y<9223372036854775808)(nt:Nat)(b:Value):Ct 18 [ptr rg,nR 11 k z x y nt b] [Rg.ch rg r,S,M] fun u Bs=>u = .bool true/\Bs=[Rg.ch rg r,S,M]:=by
 have f:=h.f cg
 obtain ⟨hn,hw,hp⟩:=h.lw cg
 by_cases hx:0<=x/\0<=y/\x+y<=22528
 ·obtain ⟨x,rfl⟩:∃j:Nat,x=j:=⟨x.toNat,by omega⟩
  obtain ⟨y,rfl⟩:∃j:Nat,y=j:=⟨y.toNat,by omega⟩
  exact Jr rg r.p r.s r.a r.d r.vQ S M k z x y 0 nt b y ((GM.drop x).take y) (Vv h.st f x y oZ GM (ez.all h.lo.i h.jP.dk.lg hw.1 f.on.2)) (Vx h.dm x y oZ)
 ·refine Jr rg r.p r.s r.a r.d r.vQ S M k z x y 1 nt b 0 [] ((E0 h.st x y oZ hx).on (Rs:=[]) bS ?_) ((Fa h.dm x y oZ).to ?_)
  ·rintro v Bs ⟨rfl,rfl⟩
   exact ⟨[[],S],[],⟨none,0,[],rfl,Rd.nil _ _,rfl⟩,bS⟩
  ·rintro v Bs ⟨rfl,rfl⟩
   exact ⟨none,0,rfl,Rd.nil _ _,rfl⟩
end
theorem Jt {T:TypeId}{fr:Nat×Nat}{tp:Tp}{pr:Bool}{n q w i:Nat}(cg:Cg tp pr n q w){r:Rg}{X:Chunk}(h:Inv T fr tp pr n q w i r X)(rg:Nat)(o k z x y:Int)(hx:x<9223372036854775808/\y<9223372036854775808)(nt:Nat)(b:Value) :
  Ct 18 [ptr rg,nR o k z x y nt b] [Rg.ch rg r,X] fun u Bs=>u = .bool true/\Bs=[Rg.ch rg r,X]:=by
 obtain ⟨qs,ls,R,no,u,all,od,rm,lM,lD,GM,SM,GD,SD,pm,cs,mo,ring,S,M,Dn,Q,h,rfl⟩:=h
 by_cases h4:o=4
 ·subst h4;exact Bf (VT cg h rg k z x y hx nt b)
 by_cases h5:o=5
 ·subst h5;exact Bf (VQ h rg k z x y nt b)
 by_cases h6:o=6
 ·subst h6;exact Bf (RA cg h rg k z x y nt b)
 by_cases h11:o=11
 ·subst h11;exact Bf (VU cg h rg k z x y hx.2 nt b)
 exact (VI rg k z x y nt b o h4 h5 h6 h11).dg (Rg.ch rg r++(S++(M++(Dn++Q)))) bS ⟨rfl,rfl⟩
def acw (T:TypeId)(fr:Nat×Nat)(p:Nat)(qs:List Nat)(tp:Tp)(pr:Bool)(n q w:Nat)(u:Ub)(l:List au)(G:List UInt8)(pm:List dt)(no0 s:Nat)(b0 b1 b2 b3 b4 b5 b6 b7:Chunk):Prop :=
 ∃ls R no all od rm cs mo ring,jK qs ls/\ls.length=w/\qH tp pr n ls.length q R no u all od rm l l G G pm cs mo ring/\AZ T fr p qs tp pr n ls s R no u.txg u.note all od rm (b0++(gK T fr++(b1++(b2++(b3++(b4++(b5++(b6++b7))))))))/\(1<=no/\no<=no0+22528)/\R.ws=[]
section
variable {T:TypeId}{fr:Nat×Nat}{p:Nat}{qs:List Nat}{tp:Tp}{pr:Bool}{n q w:Nat}(cg:Cg tp pr n q w)(Au:qs.length=w){R:Rk}{no:Nat}{u:Ub}{l:List au}{G:List UInt8}{pm:List dt}{cs:List (Int×Ob)}{mo:Ob}{ring:Nat->Option Ub}{C:Chunk}
 (hD:Dsk tp pr n w q R no u l G pm cs mo ring) (hC:bq p qs R C)
include cg Au hD hC
theorem Ff (Q:Chunk)(jB:Option Addr)(cq:Nat)(hQ:Rd Q 1 (.slice jB w cq) w (qs.map ptr)):Ct 19 [.slice jB w cq] [gK T fr,C,Q] fun v Bs=>∃t V,v = .tuple #[ptr t,.int .i64 0]/\(∃ls,jK qs ls/\ls.length=w/\jb t 11 tp pr n ls (p9 R ls 1 w) V)/\Bs=[V,gK T fr,C,Q]:=by
 refine (KZ T fr p qs 11 tp pr n w cg.ok Au R C hC hD.qt.on.2 hD.qt.sz (fun k hk=>Ri cg.qk (by rw [<-cg.hw];exact hk)) hD.qt.lb Q jB cq hQ (fun _ _ j=>ring j) hD.qt.rg _ hD.rg.jY.1 (fun _ _ j v h=>hD.rg.jY.2 j v h) (fun i _ _=>⟨u,0,u.txg % 8,by omega,Nat.mod_lt _ oZ,hD.rg.top,hD.rg.pl⟩)).to ?_
 rintro v Bs ⟨t,V,ls,h1,h2,h3,h4,h5⟩
 exact ⟨t,V,h1,⟨ls,h3,h2,h4⟩,h5⟩
theorem RB (eD:1<=no/\no+22528<=281474976710656)(yo:R.ws.length<=700000000000)(t:Nat)(V:Chunk)(hV:∃ls,jK qs ls/\ls.length=w/\jb t 11 tp pr n ls (p9 R ls 1 w) V) :
  Ct 20 [ptr t] [gK T fr,C,V] fun v Bs=>∃s b0 b1 b2 b3 b4 b5 b6 b7,v = .tuple #[ptr s,.int .i64 0]/\acw T fr p qs tp pr n q w u l G pm no s b0 b1 b2 b3 b4 b5 b6 b7/\Bs=[b0,gK T fr,b1,b2,b3,b4,b5,b6,b7]:=by
 obtain ⟨ls,xl,rfl,hV⟩:=hV
 have hn:324<=n/\n<=2048:=⟨cg.ok.hn.1,cg.n2⟩
 have hw:=cg.ok.hw
 obtain ⟨k1,k2,k3,k4,k5,k6,k7,k8⟩:=hD.opens xl.i hn hw cg.ok.hp eD _ rfl
 have r1:=k2.root
 have r2:=k2.Sj
 have r3:=k2.JY
 have r4:=k2.op
 have one:=hD.rg.one
 rw [<-hD.rt] at r1 r2 r3 r4 k8
 refine (U0 T fr p qs t 11 tp pr n ls (p9 R ls 1 ls.length) V hV cg.ok cg.n2 R C hC (xl.ok hD.qt.sz) xl.all hD.qt.on (fun _ _ j=>ring j) (fun i x hx=>by
   obtain ⟨e,hi⟩:=xl.i.at hx
   rw [e];exact hD.qt.rg i hi) _ hD.rg.jY.1 (fun _ _ j v h=>hD.rg.jY.2 j v h) u (fun x hx=>hD.rg.ae8 hw.1 hx) oZ (fg pm) r1 (j2 pm) r2 (slotsOf cs) (eJ cs) k2.so r3 k2.ob (aN pr ls.length 1024) rfl r4 hD.ub.1 hD.ub.2 hD.rg.pl ⟨k1.1,by omega⟩ oZ (Rh hC.ok ls) k3 (xl.ok fun k hk=>⟨(k4 k).2.2 (hD.qt.sz k hk).1,by rw [(k4 k).1];exact (hD.qt.sz k hk).2⟩) oZ).to ?_
 rintro v Bs ⟨s,al,ra,rd,ks,rfl,h1,h2,C',V',LA,CA,VA,Ld,CD,VD,Al,a1,a2,a3,a4,a5,a6,a7,rfl⟩
 have Gb:(QL n ls (p9 R ls 1 ls.length) u R).ws=[]:=qF xl.i a1.ok (a1.len.symm.trans Au) (k3.run _).2
 exact ⟨s,_,C',V',CA,VA,CD,VD,Al,rfl,⟨ls,_,_,_,_,⟨ks,[]⟩,_,_,ring,xl,rfl,k8 ks h1 h2,⟨t,al,ra,rd,C',V',LA,CA,VA,Ld,CD,VD,Al,a2,a1,a3,a4,a5,a6,a7,rfl⟩,⟨by omega,by omega⟩,Gb⟩,rfl⟩
theorem RC (eD:1<=no/\no+22528<=281474976710656)(yo:R.ws.length<=700000000000)(Q:Chunk)(jB:Option Addr)(cq:Nat)(hQ:Rd Q 1 (.slice jB w cq) w (qs.map ptr)) :
  Ct 7 [.slice jB w cq] [gK T fr,C,Q] fun v Bs=>∃s b0 b1 b2 b3 b4 b5 b6 b7,v = .tuple #[ptr s,.bool true]/\acw T fr p qs tp pr n q w u l G pm no s b0 b1 b2 b3 b4 b5 b6 b7/\Bs=[b0,gK T fr,b1,b2,b3,b4,b5,b6,b7,Q] :=
 Qr jB w cq (gK T fr) C Q _ (Ff cg Au hD hC Q jB cq hQ) _ fun t V hV=>RB cg Au hD hC eD yo t V hV
end
theorem Ju {a b i:Nat}(h1:a<=b+22528)(h2:b<=1+22528*i):a<=1+22528*(i+1):=Nat.le_trans h1 (Nat.le_trans (Nat.add_le_add_right h2 22528) (Nat.le_of_eq (by rw [Nat.mul_succ,Nat.add_assoc])))
theorem RD {T:TypeId}{fr:Nat×Nat}{tp:Tp}{pr:Bool}{n q w i:Nat}(cg:Cg tp pr n q w)(hi:i<=1100000){r:Rg}{X:Chunk}(h:Inv T fr tp pr n q w i r X)(rg:Nat) :
  Ct 16 [ptr rg] [Rg.ch rg r,X] fun u Bs=>u = .bool true/\∃r' X',Inv T fr tp pr n q w (i+1) r' X'/\Bs=[Rg.ch rg r',X']:=by
 obtain ⟨qs,ls,R,no,u,all,od,rm,lM,lD,GM,SM,GD,SD,pm,cs,mo,ring,S,M,Dn,Q,h,rfl⟩:=h
 obtain ⟨hn,hw,hp⟩:=h.lw cg
 obtain ⟨jB,cq,hv,hQ⟩:=h.vq
 have yo:=h.ws
 have eD:=h.no
 have uo:=h.tx
 have iM:=h.ll
 have Au:=h.ql
 have Ox:=h.dd
 obtain ⟨p,vQ,s,a,d⟩:=r
 simp only at hv
 subst hv
 have hk:=h.st.rk
 have TF:=h.jP.acp hn hw hp hk.1
 rw [iM] at TF
 have cw:=h.st
 obtain ⟨t,al,ra,rd,C,V,LA,CA,VA,Ld,CD,VD,Al,hV,hC,hA,hG,hD,hP,hL,rfl⟩:=cw
 obtain ⟨ad,c,D,O,adG,cG,DG,bI,cS,DS,h1,h2,h3,h4,h5,rfl⟩:=id Ox
 refine (UI rg p s a d w cq jB (gK T fr) C Q (fun C'=>bq p qs R.xi C') (Zo p qs R C hC (by have:=cg.ok.hw;omega) oZ) (fun C' t V=>bq p qs R.xi C'/\∃ls,jK qs ls/\ls.length=w/\jb t 11 tp pr n ls (p9 R.xi ls 1 w) V) (fun C' bA=>(Ff cg Au TF bA Q jB cq hQ).to fun v Bs ⟨t,V,e1,e2,e3⟩=>⟨t,V,e1,⟨bA,e2⟩,e3⟩)
  _ (fun C' t V hV=>RB cg Au TF hV.1 ⟨eD.1,by omega⟩ (Nat.zero_le _) t V hV.2) lD h.jP.dk.RU.rel.dl u.txg u.note (q - 10) GD SD adG cG DG h4.rd bI cS DS h5.rd ad c D O h1.1 h3).on (Rs:=[(s,bR t (ptr al) ra rd u.txg u.note)]++(V++(CA++(VA++(CD++(VD++(Al++M))))))) bS ?_
 rintro v Bs ⟨hv,s',b0,b1,b2,b3,b4,b5,b6,b7,a',l',ba,c',D',E,kX,yO,wD,kg,xL,AM,⟨ls',R',ET,EU,od',rm',cs',MK,Xm,e1,e2,e3,e4,e5,e6⟩,g1,g2,g3,g4,g5,rfl⟩
 have q1:1<=ET/\ET<=1+22528*(i+1):=⟨e5.1,Ju e5.2 eD.2⟩
 have q2:u.txg<=1+(i+1):=Nat.le_trans uo (Nat.add_le_add_left (Nat.le_succ i) 1)
 refine ⟨_,[(s,bR t (ptr al) ra rd u.txg u.note)]++(V++(CA++(VA++(CD++(VD++(Al++M)))))),⟨hv,⟨p,.slice jB w cq,s',a',d⟩,_,⟨qs,ls',R',ET,u,EU,od',rm',l',lD,SD,SD,GD,SD,pm,cs',MK,Xm,_,_,_,Q,⟨⟨jB,cq,rfl,hQ⟩,e1,Au,e2,e3.nvM g1,e4,⟨ba,c',D',E,kX,yO,wD,kg,xL,AM,Jd.of g2,by have:=g2.dN;omega,g3,g4,g5,rfl⟩,Ox,q1,q2,by rw [e6];exact Nat.zero_le _⟩,rfl⟩,rfl⟩,bS⟩
def HsP (tp:Tp)(pr:Bool)(n w s:Nat)(qs:List Nat)(u:Ub)(pm:List dt)(l:List au)(Z:Chunk):Prop:=∃ls all,jK qs ls/\ls.length=w/\bF pm all l/\∃t vA ra rd no V LA CA VA,jb t 11 tp pr n ls no V/\Mp ra .i64 LA CA/\eS wi LA all VA/\Z=[(s,bR t vA ra rd u.txg u.note)]++(V++(CA++VA))
structure BsP (tp:Tp)(pr:Bool)(n q w b:Nat)(r:Rg)(qs:List Nat)(R:Rk)(no:Nat)(u:Ub)(l:List au)(pm:List dt)(C M Q:Chunk):Prop where
 vq:∃ad c,r.vQ = .slice ad w c/\Rd Q 1 (.slice ad w c) w (qs.map ptr)
 ql:qs.length=w
 rk:bq r.p qs R C
 dk:∃G cs mo ring,Dsk tp pr n w q R no u l G pm cs mo ring
 dm:∃G Z,Bz r.a l u.txg u.note (q - 10) G Z M
 no:1<=no/\no<=1+22528*b
 ws:R.ws.length<=112640*b
def Fi (T:TypeId)(fr:Nat×Nat)(tp:Tp)(pr:Bool)(n q w b:Nat)(r:Rg)(X:Chunk):Prop:=∃qs R no u l pm C M Q J,BsP tp pr n q w b r qs R no u l pm C M Q/\X=gK T fr++(C++(M++(Q++J)))
def Po1 (T:TypeId)(fr:Nat×Nat)(tp:Tp)(pr:Bool)(n q w b:Nat)(r:Rg)(s:Nat)(X:Chunk):Prop:=∃qs R no u l pm C M Q Z J,BsP tp pr n q w b r qs R no u l pm C M Q/\HsP tp pr n w s qs u pm l Z/\X=gK T fr++(C++(M++(Q++(Z++J))))
def Po2 (T:TypeId)(fr:Nat×Nat)(tp:Tp)(pr:Bool)(n q w b:Nat)(r:Rg)(s s':Nat)(X:Chunk):Prop:=∃qs R no u l pm C M Q Z Z' J,BsP tp pr n q w b r qs R no u l pm C M Q/\HsP tp pr n w s qs u pm l Z/\HsP tp pr n w s' qs u pm l Z'/\X=gK T fr++(C++(M++(Q++(Z'++(Z++J)))))
section
variable {T:TypeId}{fr:Nat×Nat}{tp:Tp}{pr:Bool}{n q w b:Nat}{r:Rg}
theorem HK.fi {X:Chunk}(h:HK T fr tp pr n q w b r X):∃X',Fi T fr tp pr n q w b r X'/\X.Perm X':=by
 obtain ⟨qs,ls,R,no,u,all,od,rm,lM,lD,GM,SM,GD,SD,pm,cs,mo,ring,S,M,Dn,Q,h,he,rfl⟩:=h
 have iM:=h.ll
 obtain ⟨t,al,ra,rd,C,V,LA,CA,VA,Ld,CD,VD,Al,hV,hC,hA,hG,hD,hP,hL,rfl⟩:=h.st
 have hk:=h.jP.dk
 rw [iM] at hk
 exact ⟨_,⟨qs,R,no,u,lM,pm,C,M,Q,[(r.s,bR t (ptr al) ra rd u.txg u.note)]++(V++(CA++(VA++(CD++(VD++(Al++Dn)))))),⟨h.vq,h.ql,hC,⟨GM,cs,mo,ring,{ hk with RU:=hk.RU.nv he,ud:=by rw [wW he];exact hk.ud }⟩,⟨GM,SM,h.dm⟩,h.no,h.ws⟩,rfl⟩,bS⟩
variable (cg:Cg tp pr n q w){qs:List Nat}{R:Rk}{no:Nat}{u:Ub}{l:List au}{pm:List dt}{C M Q:Chunk}(h:BsP tp pr n q w b r qs R no u l pm C M Q)
include cg h
theorem Fg (hb:b<=1100000)(J:Chunk):Ct 7 [r.vQ] [gK T fr++(C++(M++(Q++J)))] fun v Bs=>∃s X',v = .tuple #[ptr s,.bool true]/\(∃R' ET C' Z J',BsP tp pr n q w (b+1) r qs R' ET u l pm C' M Q/\HsP tp pr n w s qs u pm l Z/\X'=gK T fr++(C'++(M++(Q++(Z++J'))))/\J'=J)/\Bs=[X']:=by
 obtain ⟨ad,c,hv,hQ⟩:=h.vq
 obtain ⟨G,cs,mo,ring,hD⟩:=h.dk
 have eD:=h.no
 have yo:=h.ws
 rw [hv]
 refine (RC (T:=T) (fr:=fr) cg h.ql hD h.rk ⟨eD.1,by omega⟩ oZ Q ad c hQ).on (Rs:=M++J) bS ?_
 rintro v Bs ⟨s,b0,b1,b2,b3,b4,b5,b6,b7,rfl,⟨ls,R',ET,all,od,rm,cs',MK,Xm,e1,e2,e3,e4,e5,e6⟩,rfl⟩
 obtain ⟨t,al,ra,rd,C',V,LA,CA,VA,Ld,CD,VD,Al,hV,hC,hA,hG, -, -, -,e⟩:=e4
 have TF:=e3.dk
 have nT:=e3.rel
 rw [e2] at TF
 refine ⟨_,CD++(VD++Al),⟨s,_,rfl,⟨R',ET,C',[(s,bR t (ptr al) ra rd u.txg u.note)]++(V++(CA++VA)),J,⟨h.vq,h.ql,hC,⟨_,_,_,_,TF⟩,h.dm,⟨e5.1,Ju e5.2 eD.2⟩,by rw [e6];exact Nat.zero_le _⟩,⟨ls,all,e1,e2,nT,t,ptr al,ra,rd,ET,V,LA,CA,VA,hV,hA,hG,rfl⟩,rfl,rfl⟩,rfl⟩,bS fun c h1 h0 => ?_⟩
 have:=congrArg c e
 simp only [List.flatten_cons,List.flatten_nil,h1,h0] at this ⊢
 omega
theorem Jv {s:Nat}{Z:Chunk}(hs:HsP tp pr n w s qs u pm l Z){X:Chunk}(Y:Chunk)(hX:X.Perm (gK T fr++(C++(M++(Z++Y))))):Ct 8 [ptr s,ptr r.a] [X] fun v Bs=>v = .bool true/\Bs=[X]:=by
 obtain ⟨ls,all,xl,rfl,nT,t,vA,ra,rd,ET,V,LA,CA,VA,hV,hA,hG,rfl⟩:=hs
 obtain ⟨G,cs,mo,ring,hD⟩:=h.dk
 obtain ⟨GM,SM,ad,c,D,O,adG,cG,DG,bI,cS,DS,h1,h2,h3,h4,h5,rfl⟩:=h.dm
 have he:all.map (·.1)=LA.map (·.1):=hG.keys
 have iM:LA.length=l.length:=by
  have h:=congrArg List.length he
  rw [List.length_map,List.length_map] at h
  exact h.symm.trans nT.len
 have hX':=hX
 rw [<-List.append_nil X] at hX'
 refine (ZD T fr r.p qs t 11 tp pr n ls ET V hV cg.ok R C h.rk (xl.ok hD.qt.sz) xl.all hD.qt.on.2 s vA ra rd u.txg u.note LA CA hA all VA hG r.a l nT.dl (q - 10) (.slice adG 22528 cG) (.slice bI 22528 cS) ad c D O h1.1 h3 iM (fun ks k1 k2=>nT.ks (by rw [he];exact k1) k2) (j2 pm) (fun d hd => ?_)).dg (DG++(DS++Y)) (hX'.trans bS) ⟨rfl,rfl⟩
 have hk:=rY nT.ord hd
 rcases nT.keys d.no with ⟨-,c⟩ | ⟨o,d',c1,c2,hi,hr⟩
 ·rw [hk] at c;cases c
 ·rw [hk] at c2;cases c2
  exact ⟨(nT.no d hd).1,o,c1,hr.size,hr.me,HD xl.i cg.ok.hn.1 cg.ok.hw cg.ok.hp (fun i hi=>(hD.qt.sz i hi).2) hD.po hi,fun e he=>(hi.fk e he).2.2⟩
end
theorem RG {a txg note room:Nat}{G Z:List UInt8}{ad adG bI:Option Addr}{c cG cS:Nat}{D DG DS:Chunk}(hD:az D 72 130 (.slice ad 0 c) 0 [])(h4:az DG 5 1 (.slice adG 22528 cG) 22528 (ak G))(h5:az DS 5 1 (.slice bI 22528 cS) 22528 (ak Z)) :
  Bz a [] txg note room G Z ([(a,eM (.slice ad 0 c) txg note room (.slice adG 22528 cG) (.slice bI 22528 cS))]++(D++([]++(DG++DS)))):=⟨ad,c,D,[],adG,cG,DG,bI,cS,DS,Jd.of hD,Nat.zero_le _,fun o ho=>(by cases ho),h4,h5,rfl⟩
structure aau (A:Chunk)(o:nS):Prop where
 b:∃ad m c bs,o.b = .slice ad m c/\Rd A 1 (.slice ad m c) m (ak bs)/\bs.length=m/\m<=c/\m<=1048576
 x:o.x<9223372036854775808/\o.y<9223372036854775808
 nt:o.nt<18446744073709551616
section
variable {T:TypeId}{fr:Nat×Nat}{tp:Tp}{pr:Bool}{n q w i:Nat}(cg:Cg tp pr n q w)(hi:i<=1100000){r:Rg}{X:Chunk}(h:Inv T fr tp pr n q w i r X)
include cg hi h
theorem HL (rg:Nat)(o:nS){A:Chunk}(ho:aau A o):Ct 17 [ptr rg,nS.agg o] [Rg.ch rg r,X,A] fun u Bs=>u = .bool true/\∃r' X',Inv T fr tp pr n q w (i+1) r' X'/\Bs=[Rg.ch rg r',X',A]:=by
 obtain ⟨qs,ls,R,no,u,all,od,rm,lM,lD,GM,SM,GD,SD,pm,cs,mo,ring,S,M,Dn,Q,h,rfl⟩:=h
 obtain ⟨o,k,z,x,y,nt,b⟩:=o
 obtain ⟨⟨ad,m,c,bs,hb,hA,dr,hc,hm⟩,hx,FB⟩:=ho
 simp only at hb hx FB
 subst hb
 by_cases h0:o=0
 ·subst h0;exact (Rw cg h rg k z x y nt m hm bs dr ad c A hA hc).to fun v Bs ⟨e,X',e1,e2⟩=>⟨e,r,X',e1,e2⟩
 by_cases h1:o=1
 ·subst h1;exact (Rx cg h rg k z x y nt _ A).to fun v Bs ⟨e,X',e1,e2⟩=>⟨e,r,X',e1,e2⟩
 by_cases h2:o=2
 ·subst h2;exact (VK cg h rg k z x y nt _ A).to fun v Bs ⟨e,X',e1,e2⟩=>⟨e,r,X',e1,e2⟩
 by_cases h3:o=3
 ·subst h3;exact (VL h rg k z x y nt _ A).to fun v Bs ⟨e,X',e1,e2⟩=>⟨e,r,X',e1,e2⟩
 by_cases h7:o=7
 ·subst h7;exact (yX cg hi h rg k z x y nt FB _ A).to fun v Bs ⟨e,r',X',e1,e2⟩=>⟨e,r',X',e1.inv,e2⟩
 by_cases h9:o=9
 ·subst h9;exact (VM cg hi h rg k z x y nt m hm bs dr ad c A hA hc).to fun v Bs ⟨e,X',e1,e2⟩=>⟨e,r,X',e1,e2⟩
 by_cases Xl:o=10
 ·subst Xl;exact (Rz cg h rg k z x y nt _ A).to fun v Bs ⟨e,X',e1,e2⟩=>⟨e,r,X',e1,e2⟩
 exact (VG rg k z x y nt _ o h0 h1 h2 h3 h7 h9 Xl).dg (Rg.ch rg r++(S++(M++(Dn++(Q++A))))) bS ⟨rfl,r,_,h.LZ,rfl⟩
theorem VV (rg:Nat)(o:nS){A:Chunk}(ho:aau A o):Ct 6 [ptr rg,nS.agg o] [Rg.ch rg r,X,A] fun u Bs=>u = .bool true/\∃r' X',Inv T fr tp pr n q w (i+1) r' X'/\Bs=[Rg.ch rg r',X',A]:=by
 by_cases h8:o.o=8
 ·obtain ⟨o,k,z,x,y,nt,b⟩:=o
  simp only at h8
  subst h8
  refine (Hk rg r X k z x y nt b (Inv T fr tp pr n q w (i+1)) (RD cg hi h rg)).on (Rs:=A) bS ?_
  rintro v Bs ⟨hv,r',X',h1,rfl⟩
  exact ⟨_,[],⟨hv,r',X',h1,rfl⟩,bS⟩
 ·exact yP rg r X A o.k o.z o.x o.y o.nt o.b (Inv T fr tp pr n q w (i+1)) (Inv T fr tp pr n q w (i+1)) o.o h8 (HL cg hi h rg o ho) fun r' X' h'=>(Jt cg h' rg o.o o.k o.z o.x o.y ho.x o.nt o.b).to fun v Bs ⟨e,e1⟩=>⟨e,r',X',h',e1⟩
theorem VW (rg:Nat):Ct 6 [ptr rg,nR 7 0 0 0 0 4 (.slice none 0 0)] [Rg.ch rg r,X] fun u Bs=>u = .bool true/\∃r' X',Fi T fr tp pr n q w (i+1) r' X'/\Bs=[Rg.ch rg r',X']:=by
 obtain ⟨qs,ls,R,no,u,all,od,rm,lM,lD,GM,SM,GD,SD,pm,cs,mo,ring,S,M,Dn,Q,h,rfl⟩:=h
 refine (yP rg r (S++(M++(Dn++Q))) [] 0 0 0 0 4 (.slice none 0 0) (HK T fr tp pr n q w (i+1)) (HK T fr tp pr n q w (i+1)) 7 dZ (yX cg hi h rg 0 0 0 0 4 dZ _ []) fun r' X' h'=>(Jt cg h'.inv rg 7 0 0 0 0 dZ 4 _).to fun v Bs ⟨e,e1⟩=>⟨e,r',X',h',e1⟩).on (Rs:=[]) bS ?_
 rintro v Bs ⟨hv,r',X',h1,rfl⟩
 obtain ⟨X2,h2,h3⟩:=h1.fi
 refine ⟨_,[],⟨hv,r',X2,h2,rfl⟩, ?_⟩
 simp only [List.flatten_cons,List.flatten_nil,List.append_nil]
 exact h3.append_left _
end
section
variable {T:TypeId}{fr:Nat×Nat}{tp:Tp}{pr:Bool}{n w:Nat}(qk:tp.qk)(ok:dK tp pr n w)(n2:n<=2048)(hw:w=tp.leaves.toNat)
include qk ok n2 hw
theorem RH (O:Chunk)(ad:Option Addr)(c:Nat)(hO:az O 23 3 (.slice ad 1 c) 1 tp.lay):Ct 5 [.slice ad 1 c] [gK T fr,O] fun u Bs=>(bD pr w n / aN pr w 1024 / 4<10/\(∃x,u = .tuple #[x,.bool false,.bool true])/\Bs=[gK T fr,O]) \/
  10<=bD pr w n / aN pr w 1024 / 4/\∃rg r X,u = .tuple #[ptr rg,.bool true,.bool true]/\Inv T fr tp pr n (bD pr w n / aN pr w 1024 / 4) w 0 r X/\Bs=[Rg.ch rg r,X]:=by
 obtain ⟨q,hq⟩:∃q,q=bD pr w n / aN pr w 1024 / 4:=⟨_,rfl⟩
 have Kq:∀k,k<w->uX ⟨11,[tp],0,k⟩=0/\eU.Ok ⟨11,[tp],0,k⟩:=fun k hk=>Ri qk (by rw [<-hw];exact hk)
 have yo:∀k,(qU n k).ws=[]:=fun k=>by
  induction k with
  | zero=>rfl
  | succ k ih=>exact ih
 obtain ⟨R0,hR0⟩:∃R0,R0=(qU n w).run (upto (qT n fun k=>⟨11,[tp],0,k⟩) w):=⟨_,rfl⟩
 have hb:=UJ tp pr n w ok n2 (gK T fr) O ad c hO (fun p qs t V C'=>∃ls,ls.length=w/\jK qs ls/\jb t 11 tp pr n ls 1 V/\bq p qs R0 C'/\qs.length=w)
  (fun p qs C Q jB cq Au hC hQ hcq=>(KV T fr p qs 11 tp pr n w ok Au (qU n w) C hC (HH n w) (fun k hk=>⟨(r8 hk).1,(r8 hk).2.1⟩) Kq (by rw [yo];exact Nat.zero_le _) O ad c hO Q jB cq hQ hcq).to fun v Bs ⟨t,V,ls,C',e1,e2,e3,e4,e5,e6⟩=>⟨t,V,C',e1,⟨ls,e2,e3,e4,by rw [hR0];exact e5,Au⟩,e6⟩)
  (fun bo p qs t V C' ⟨ls,e2,e3,e4,e5,e6⟩=>by
   subst e2
   obtain ⟨k1,k2,k3⟩:=EV (w:=ls.length) (pool:=11) (tp:=tp) ok.hn.1
   rw [<-hR0] at k1
   exact U5 T fr p qs t 11 tp pr n ls 1 V e4 ok n2 R0 C' e5 (e3.ok k1.sz) e3.all k1.on bo)
  (fun p qs s b0 b1 b2 b3 b4 b5=>∃ls R ring,jK qs ls/\ls.length=w/\qH tp pr n ls.length q R 1 ⟨11,1,0,ah⟩ [] [] ⟨[],[]⟩ [] [] (List.replicate 22528 0) (List.replicate 22528 0) [] [] Vj ring/\AZ T fr p qs tp pr n ls s R 1 1 0 [] [] ⟨[],[]⟩ (b0++(gK T fr++(b1++(b2++(b3++([]++(b4++([]++b5))))))))/\R.ws=[])
  (fun xX p qs t V C' ⟨ls,e2,e3,e4,e5,e6⟩=>by
   subst e2
   obtain ⟨k1,k2,k3,ring,k4⟩:=qH.new (tp:=tp) (pr:=pr) (q:=q) e3.i ⟨ok.hn.1,n2⟩ oZ R0 hR0
   refine (aae T fr p qs t 11 tp pr n ls 1 V e4 ok n2 R0 C' e5 (e3.ok k2) e3.all k1 xX (fun i x hx=>by
    obtain ⟨e,hi⟩:=e3.i.at hx
    rw [e];exact k3 i hi) dZ ?_).to ?_
   ·have hl:=Rk.iL (qU n ls.length) (upto (qT n fun k=>⟨11,[tp],0,k⟩) ls.length)
    have hc:=cV (f:=qT n fun k=>⟨11,[tp],0,k⟩) (c:=2000) (fun k=>by
     have:=cV (f:=gC n k (whole (dL ⟨11,[tp],0,k⟩))) (c:=274) (fun k=>by unfold gC;split <;> simp only [fu,List.length_replicate,List.length_cons,List.length_nil] <;> omega) 7
     show (upto (gC n k (whole (dL ⟨11,[tp],0,k⟩))) 7).length<=2000
     omega) ls.length
    rw [yo,<-hR0] at hl
    have:=ok.hw
    simp only [List.length_nil] at hl
    omega
   ·rintro v Bs ⟨s,al,ra,rd,rfl,C2,CA,CD,Al,a1,a2,a3,a4,rfl⟩
    have Gb:=qF e3.i a1.ok (by rw [<-a1.len,e6]) (k1.run _).2
    exact ⟨s,_,C2,V,CA,CD,Al,rfl,⟨ls,_,ring,e3,rfl,k4,⟨t,al,ra,rd,C2,V,[],CA,[],[],CD,[],Al,e4,a1,a2,rfl,a3,rfl,a4,rfl⟩,Gb⟩,rfl⟩)
 rw [<-hq] at hb ⊢
 refine hb.on (Rs:=[]) bS ?_
 rintro v Bs (⟨h1,h2,rfl⟩ | ⟨h1,rg,p,qs,jB,cq,Q,s,b0,b1,b2,b3,b4,b5,a,adG,cG,DG,bI,cS,DS,d,ba,c',D',E,kX,yO,wD,kg,xL,AM,rfl,e1,e2,⟨ls,R,ring,e3,e4,e5,e6,e7⟩,e8,e9,e10,e11,e12,rfl⟩)
 ·exact ⟨_,[],.inl ⟨h1,h2,rfl⟩,bS⟩
 ·refine ⟨_,O++E,.inr ⟨h1,rg,⟨p,.slice jB w cq,s,a,d⟩,_,rfl,⟨qs,ls,R,1,⟨11,1,0,ah⟩,[],[],⟨[],[]⟩,[],[],_,_,_,_,[],[],Vj,ring,_,_,_,Q,⟨⟨jB,cq,rfl,e2.rd⟩,e3,e1,e4,e5,e6,RG (az.nil _ _) e8 e9,RG e10 e11 e12,by decide,by simp only;omega,by rw [e7];exact Nat.zero_le _⟩,rfl⟩,rfl⟩,bS⟩
theorem L8 (j:Nat)(hj:1<=j/\j<=6)(A:Chunk)(ops:List nS)(ZS:ops.length<=1048576)(aQ:∀o∈ops,aau A o)(Se:Option Addr)(cO:Nat)(hA:Rd A 7 (.slice Se ops.length cO) ops.length (ops.flatMap nS.lay)) :
  Ct 3 [tp.agg,.slice Se ops.length cO,.int .i64 j] [gK T fr,A] fun u Bs=>u = .bool true/\∃Z,Bs=gK T fr :: A :: Z:=by
 have hb:=fun O ad c hO=>RH (T:=T) (fr:=fr) qk ok n2 hw O ad c hO
 obtain ⟨q,hq⟩:∃q,q=bD pr w n / aN pr w 1024 / 4:=⟨_,rfl⟩
 rw [<-hq] at hb
 by_cases Xl:10<=q
 ·have cg:Cg tp pr n q w:=⟨qk,ok,n2,hw,hq.symm,Xl⟩
  refine Jh tp qk j hj (gK T fr) A ops ops.length rfl ZS Se cO hA (fun i _ r X=>i<=ops.length/\Inv T fr tp pr n q w i r X) (fun O ad c hO=>(hb O ad c hO).to ?_) (fun i o rg r X ho h=>(VV cg oZ h.2 rg o (aQ o (List.mem_of_getElem? ho))).to ?_)
   (fun i _ r X=>Fi T fr tp pr n q w (ops.length+1+2*i) r X) (fun rg r X h=>VW cg oZ h.2 rg)
   (fun i _ r s X=>Po1 T fr tp pr n q w (ops.length+1+2*i+1) r s X) (fun i rg r X h6 h => ?_)
   (fun i _ r s s' X=>Po2 T fr tp pr n q w (ops.length+1+2*i+2) r s s' X) (fun i rg r s X h6 h => ?_) (fun i rg r s s' X h => ?_) (fun i rg r s s' X h => ?_) (fun i rg r s s' X h => ?_) (fun i rg r X ⟨qs,R,no,u,l,pm,C,M,Q,J,_,e⟩=>⟨_,e⟩)
  ·rintro v Bs (⟨h1, -⟩ | ⟨-,rg,r,X,h1,h2,h3⟩)
   ·omega
   ·exact .inr ⟨rg,r,X,h1,⟨Nat.zero_le _,h2⟩,h3⟩
  ·rintro v Bs ⟨h1,r',X',h2,h3⟩
   have:=(List.getElem?_eq_some_iff.1 ho).1
   exact ⟨h1,r',X',⟨by omega,h2⟩,h3⟩
  ·obtain ⟨qs,R,no,u,l,pm,C,M,Q,J,h,rfl⟩:=h
   refine (Fg cg h oZ J).to ?_
   rintro v Bs ⟨s,X',h1,⟨R',ET,C',Z,J',h2,h3,rfl,rfl⟩,h4⟩
   exact ⟨s,_,h1,⟨qs,R',ET,u,l,pm,C',M,Q,Z,J',h2,h3,rfl⟩,h4⟩
  ·obtain ⟨qs,R,no,u,l,pm,C,M,Q,Z,J,h,hz,rfl⟩:=h
   refine (Fg cg h oZ (Z++J)).to ?_
   rintro v Bs ⟨s',X',h1,⟨R',ET,C',Z',J',h2,h3,rfl,rfl⟩,h4⟩
   exact ⟨s',_,h1,⟨qs,R',ET,u,l,pm,C',M,Q,Z,Z',J,h2,hz,h3,rfl⟩,h4⟩
  ·obtain ⟨qs,R,no,u,l,pm,C,M,Q,Z,Z',J,h,h1,h2,rfl⟩:=h
   exact Jv (T:=T) (fr:=fr) cg h h1 (Q++(Z'++J)) bS
  ·obtain ⟨qs,R,no,u,l,pm,C,M,Q,Z,Z',J,h,h1,h2,rfl⟩:=h
   exact Jv (T:=T) (fr:=fr) cg h h2 (Q++(Z++J)) bS
  ·obtain ⟨qs,R,no,u,l,pm,C,M,Q,Z,Z',J,h,h1,h2,rfl⟩:=h
   exact ⟨qs,R,no,u,l,pm,C,M,Q,Z'++(Z++J),h,rfl⟩
 ·refine Jh tp qk j hj (gK T fr) A ops ops.length rfl ZS Se cO hA (fun _ _ _ _=>False) (fun O ad c hO=>(hb O ad c hO).to ?_) (fun i o rg r X ho h=>h.elim) (fun _ _ _ _=>False) (fun rg r X h=>h.elim) (fun _ _ _ _ _=>False) (fun i rg r X h6 h=>h.elim) (fun _ _ _ _ _ _=>False) (fun i rg r s X h6 h=>h.elim) (fun i rg r s s' X h=>h.elim) (fun i rg r s s' X h=>h.elim) (fun i rg r s s' X h=>h.elim) (fun i rg r X h=>h.elim)
  rintro v Bs (⟨-,h1,h2⟩ | ⟨h1, -⟩)
  ·exact .inl ⟨h1,h2⟩
  ·exact absurd h1 Xl
end
end Go.Proofs.YteldablklnfblaaGreatDoor
namespace Go.Sl
open Go.ChangeShapes Go.WideShapes Go.ChangeAt Go.RowKit Go.ChangeMaps
def old (w:World):Chunk:=w.heap.toList.zipIdx.map fun x=>(x.2,x.1)
theorem Bg {w:World}{b:Nat}{o:Obj}(h:w.heap[b]? = some o):(b,o)∈old w:=by
 refine List.mem_map.2 ⟨(o,b), ?_,rfl⟩
 rw [List.mem_zipIdx_iff_getElem?]
 simpa using h
theorem qJ (w:World):Own w (old w):=by
 refine ⟨?_,fun x hx => ?_⟩
 ·have:(old w).map (·.1)=List.range' 0 w.heap.toList.length:=by simp [old,Function.comp_def]
  rw [this];exact List.nodup_range'
 ·obtain ⟨y,hy,rfl⟩:=List.mem_map.1 hx
  rw [List.mem_zipIdx_iff_getElem?] at hy
  simpa using hy
theorem aav (w:World):Hp w [old w]:=by simpa [Hp] using qJ w
theorem Ma {w w':World}{Bs:List Chunk}(h:l9 w w' [old w] (old w :: Bs)):Below w.heap.size w w' :=
 ⟨h.os,h.tape,h.output,h.size,fun k hk=>by
  have e:w.heap[k]? = some w.heap[k]:=Array.getElem?_eq_getElem hk
  rw [e]
  have h1:=h.own [] (by simpa using qJ w)
  exact h1.2 (k,w.heap[k]) (by simp [Bg e])⟩
def Jw {H:Type}(enc:TypeId×Value->H)(P:Program)(w:World)(e:TypeId)(s:Nat){α:Type}(lay:α->List Value)(cu:α->Prop):Prop :=
 ∀n cs x,DataW.trod enc P w 0 (fun _=>true) true n e cs=some x->cs.length=s->(x.1.weights P e).all (· <= reachBytes)=true->∃a,cs=lay a/\cu a
section
variable {H:Type}{enc:TypeId×Value->H}{P:Program}{w:World}{t e:TypeId}{s:Nat}{α:Type}{lay:α->List Value}{cu:α->Prop}
theorem Jw.imp {Fh:α->Prop}(h:Jw enc P w e s lay cu)(k:∀a,cu a->Fh a):Jw enc P w e s lay Fh:=fun n cs x h1 h2 h3=>by
 obtain ⟨a,h4,h5⟩:=h n cs x h1 h2 h3
 exact ⟨a,h4,k a h5⟩
theorem Jw.map {β:Type}{acx:β->List Value}{Fh:β->Prop}(h:Jw enc P w e s lay cu)(k:∀a,cu a->∃b,lay a=acx b/\Fh b):Jw enc P w e s acx Fh:=fun n cs x h1 h2 h3=>by
 obtain ⟨a,h4,h5⟩:=h n cs x h1 h2 h3
 obtain ⟨b,h6,h7⟩:=k a h5
 exact ⟨b,h4.trans h6,h7⟩
theorem Bh {k:IntKind}(ht:P.underlying t=some (.int k)):Jw enc P w t 1 (fun z=>[.int k z]) (fun z=>(Lit.int k z).wf=true):=fun n cs x h _ _=>by
 obtain ⟨z,h1,_,h2⟩:=DataW.trod_int ht h
 exact ⟨z,h1,h2⟩
theorem jf (ht:P.underlying t=some (.int .i64)):Jw enc P w t 1 (fun z=>[.int .i64 z]) (fun z => -9223372036854775808<=z/\z<=9223372036854775807) :=
 (Bh ht).imp fun z hz=>by simpa [Lit.wf,IntKind.min,IntKind.max,IntKind.signed,IntKind.bits] using hz
theorem VX (ht:P.underlying t=some (.int .u64)):Jw enc P w t 1 (fun z:Nat=>[.int .u64 z]) (fun z=>z<18446744073709551616) :=
 (Bh ht).map fun z hz=>by
  have hz:0<=z/\z<=18446744073709551615:=by simpa [Lit.wf,IntKind.min,IntKind.max,IntKind.signed,IntKind.bits] using hz
  exact ⟨z.toNat,by rw [Int.toNat_of_nonneg hz.1],by omega⟩
theorem aaw (ht:P.underlying t=some (.int .u8)):Jw enc P w t 1 (fun b:UInt8=>[.int .u8 b.toNat]) (fun _=>True) :=
 (Bh ht).map fun z hz=>by
  have hz:0<=z/\z<=255:=by simpa [Lit.wf,IntKind.min,IntKind.max,IntKind.signed,IntKind.bits] using hz
  refine ⟨UInt8.ofNat z.toNat, ?_,trivial⟩
  have:(UInt8.ofNat z.toNat).toNat=z.toNat:=by simp;omega
  rw [this,Int.toNat_of_nonneg hz.1]
theorem na:∀ {ds:List (DataW H)} {d:DataW H},d∈ds->∀n∈d.weights P e,n∈DataW.weightsAll P e ds
 | d0 :: ds,d,hd,n,hn=>by
  simp only [DataW.weightsAll,List.mem_append]
  rcases List.mem_cons.1 hd with rfl | hd
  ·exact .inl hn
  ·exact .inr (na hd n hn)
 | [],_,hd,_,_=>by cases hd
theorem VY {n:Nat}{p:Nat->α->Prop}(h:∀i,i<n->∃a,p i a):∃asx:List α,asx.length=n/\∀i a,asx[i]? = some a->p i a:=by
 induction n with
 | zero=>exact ⟨[],rfl,by simp⟩
 | succ n ih =>
  obtain ⟨asx,h1,h2⟩:=ih (fun i hi=>h i oZ)
  obtain ⟨a,ha⟩:=h n oZ
  refine ⟨asx++[a],by simp [h1],fun i b hb => ?_⟩
  by_cases hi:i<n
  ·rw [List.getElem?_append_left oZ] at hb;exact h2 i b hb
  ·rw [List.getElem?_append_right oZ] at hb
   have:i=n:=by
    have:=(List.getElem?_eq_some_iff.1 hb).1
    simp at this;omega
   subst this
   simp [h1] at hb
   exact hb ▸ ha
theorem flat_get {asx:List α}(hl:∀a∈asx,(lay a).length=s){l:Array Value}{off:Nat}:∀(k:Nat),(∀i a,asx[i]? = some a->∀j v,(lay a)[j]? = some v->l[off+(k+i)*s+j]? = some v) ->
  ∀i u,(asx.flatMap lay)[i]? = some u->l[off+k*s+i]? = some u:=by
 induction asx with
 | nil=>intro k _ i u h;simp at h
 | cons a r ih =>
  intro k h i u hu
  rw [List.flatMap_cons] at hu
  have ha:=hl a (List.mem_cons_self ..)
  by_cases hi:i<s
  ·rw [List.getElem?_append_left oZ] at hu
   exact h 0 a rfl i u hu
  ·rw [List.getElem?_append_right oZ,ha] at hu
   have:=ih (fun b hb=>hl b (List.mem_cons_of_mem _ hb)) (k+1) (fun i b hb j v hv=>by
    have:=h (i+1) b (by simpa using hb) j v hv
    rwa [show k+1+i=k+(i+1) by omega]) (i - s) u hu
   rw [Nat.succ_mul] at this
   rwa [show off+(k*s+s)+(i - s)=off+k*s+i by omega] at this
theorem Fj {asx:List α}(hl:∀a∈asx,(lay a).length=s):(asx.flatMap lay).length=asx.length*s:=by
 induction asx with
 | nil=>simp
 | cons a r ih=>rw [List.flatMap_cons,List.length_append,ih (fun b hb=>hl b (List.mem_cons_of_mem _ hb)),hl a (List.mem_cons_self ..),List.length_cons,Nat.succ_mul,Nat.add_comm]
def acy (w:World)(s sz:Nat)(lay:α->List Value)(cu:α->Prop)(x:Value×List α):Prop :=
 ∃ad c,x.1 = .slice ad x.2.length c/\x.2.length<=c/\c*sz<=140737488351232/\Rd (old w) s x.1 x.2.length (x.2.flatMap lay)/\∀a∈x.2,cu a
theorem HM {fs:Array Field}(ht:P.underlying t=some (.struct fs)){n:Nat}{cs:List Value}{x:DataW H×List MemPlace}(h:DataW.trod enc P w 0 (fun _=>true) true n t cs=some x)(hw:(x.1.weights P t).all (· <= reachBytes)=true)
  {i:Nat} {f:Field} (hf:fs[i]? = some f) (hd:Jw enc P w f.type s lay cu) (hs:((cs.drop f.offset).take (P.cellsOf f.type)).length=s):∃a,(cs.drop f.offset).take (P.cellsOf f.type)=lay a/\cu a:=by
 obtain ⟨xs,m,rfl,rfl,hl,Wn,hx⟩:=DataW.trod_struct ht h
 have hi:i<fs.size:=(Array.getElem?_eq_some_iff.1 hf).1
 have h1:=hx i f hf
 rw [List.getElem?_eq_getElem oZ] at h1
 refine hd _ _ _ h1 hs (List.all_eq_true.2 fun k hk => ?_)
 simp only [DataW.weights,ht] at hw
 exact List.all_eq_true.1 hw k (DataW.weights_mem_each (j:=i) (by simpa using ⟨f,hf,rfl⟩) (by simp [List.getElem?_eq_getElem (show i<xs.length by omega)]) k hk)
theorem eP {fs:Array Field}(i off:Nat){ft:TypeId}(ht:P.underlying t=some (.struct fs)){n:Nat}{cs:List Value}{x:DataW H×List MemPlace}(h:DataW.trod enc P w 0 (fun _=>true) true n t cs=some x)(hw:(x.1.weights P t).all (· <= reachBytes)=true)
  (hf:(fs[i]?).map (fun f=>(f.type,f.offset))=some (ft,off)) (hc:P.cellsOf ft=s) (hd:Jw enc P w ft s lay cu) (hs:off+s<=cs.length):∃a,(cs.drop off).take s=lay a/\cu a:=by
 rw [Option.map_eq_some_iff] at hf
 obtain ⟨f,h1,h2⟩:=hf
 cases h2
 have:=HM ht h hw h1 hd (by rw [hc,List.length_take,List.length_drop];omega)
 rwa [hc] at this
theorem Mb {b:Nat}(ht:P.underlying t=some (.slice e)){v:Value}(h:Value.okWide P w .any b t v):v.cells.toList=[v]:=by
 obtain ⟨a,l,c,rfl⟩:=okWide_slice ht h
 rfl
theorem VZ {b:Nat}{k:IntKind}(ht:P.underlying t=some (.int k)){v:Value}(h:Value.okWide P w .any b t v):v.cells.toList=[v]:=by
 obtain ⟨s,rfl⟩:=okWide_int ht h
 rfl
theorem RI (bs:List UInt8):(bs.flatMap fun b=>[Value.int .u8 b.toNat])=ak bs:=by
 induction bs with
 | nil=>rfl
 | cons b r ih=>rw [List.flatMap_cons,ih];rfl
end
end Go.Sl
namespace Go.Proofs.YteldablklnfblaaGreatDoor
open Go.Sl Go.ChangeShapes Go.WideShapes Go.ChangeAt Go.RowKit
section
variable {H:Type}{enc:TypeId×Value->H}{P:Program}{w:World}{t e:TypeId}{s:Nat}{α:Type}{lay:α->List Value}{cu:α->Prop}{size:α->Nat}
theorem RJ (d:DataW H):1<=Rows.uptoBulk d:=by
 cases d with
 | lit l=>cases l <;> simp [Rows.uptoBulk]
 | nil=>simp [Rows.uptoBulk]
 | ptr d=>simp [Rows.uptoBulk]
 | slice elems spare=>simp [Rows.uptoBulk]
 | agg parts=>simp [Rows.uptoBulk]
 | iface t d=>simp [Rows.uptoBulk]
 | map entries=>simp [Rows.uptoBulk]
 | held h=>simp [Rows.uptoBulk]
theorem nH {d:DataW H}:∀ {l:List (DataW H)},d∈l->Rows.uptoBulk d<=Rows.uptoBulkAll l
 | x :: r,h=>by
  simp only [Rows.uptoBulkAll]
  rcases List.mem_cons.1 h with rfl | h
  ·omega
  ·have:=nH h;omega
 | [],h=>by cases h
def Bi (enc:TypeId×Value->H)(P:Program)(w:World)(e:TypeId)(s:Nat)(lay:α->List Value)(cu:α->Prop)(size:α->Nat):Prop :=
 ∀n cs x,DataW.trod enc P w 0 (fun _=>true) true n e cs=some x->cs.length=s->(x.1.weights P e).all (· <= reachBytes)=true->∃a,cs=lay a/\cu a/\size a<=Rows.uptoBulk x.1
theorem Bj (hd:Jw enc P w e s lay cu):Bi enc P w e s lay cu (fun _=>1):=fun n cs x h1 h2 h3=>by
 obtain ⟨a,h4,h5⟩:=hd n cs x h1 h2 h3
 exact ⟨a,h4,h5,RJ _⟩
theorem Fk:∀ {al:List α} {ds:List (DataW H)},al.length=ds.length->(∀(i:Nat) (a:α) (d:DataW H),al[i]? = some a->ds[i]? = some d->size a<=Rows.uptoBulk d)->(al.map size).sum<=Rows.uptoBulkAll ds
 | [],[],_,_=>by simp
 | a :: al,d :: ds,hl,h=>by
  have h1:=h 0 a d rfl rfl
  have h2:=Fk (al:=al) (ds:=ds) (by simpa using hl) (fun i a d ha hd=>h (i+1) a d (by simpa using ha) (by simpa using hd))
  simp only [List.map_cons,List.sum_cons,Rows.uptoBulkAll];omega
 | [],_ :: _,hl,_=>by simp at hl
 | _ :: _,[],hl,_=>by simp at hl
theorem RK {al:List α}{a:α}(h:a∈al):size a<=(al.map size).sum:=by
 induction al with
 | nil=>cases h
 | cons b r ih =>
  rw [List.map_cons,List.sum_cons]
  rcases List.mem_cons.1 h with rfl | h
  ·omega
  ·have:=ih h;omega
theorem RL {al:List α}(h:∀a,1<=size a):al.length<=(al.map size).sum:=by
 induction al with
 | nil=>simp
 | cons b r ih=>have:=h b;rw [List.map_cons,List.sum_cons,List.length_cons];omega
theorem w9 (ht:P.underlying t=some (.slice e))(hs:P.cellsOf e=s)(h0:0<s){sz:Nat}(hz:P.bytesOf e=sz)(hd:Bi enc P w e s lay cu size)(one:∀a,cu a->∀u∈lay a,u.oneCell'=true) :
  Bi enc P w t 1 (fun x:Value×List α=>[x.1]) (acy w s sz lay cu) (fun x=>(x.2.map size).sum+1):=fun n cs x h _ hw=>by
 rcases Deep.open_slice ht h with ⟨rfl,rfl⟩ | ⟨a,len,cap,m,n,D,Pl,rfl,_,hl,hm,Bp,rfl,hx⟩
 ·exact ⟨(.slice none 0 0,[]),rfl,⟨none,0,rfl,Nat.le_refl _,by simp,⟨by simp,by simp,Nat.zero_le _,.inl ⟨rfl,none,0,rfl⟩⟩,by simp⟩,by simp [Rows.uptoBulk]⟩
 ·simp only [if_true] at Bp
  subst Bp
  simp only [DataW.weights,ht,List.length_map,List.length_range,List.all_cons,Bool.and_eq_true,decide_eq_true_eq,List.all_append] at hw
  obtain ⟨R7,MN,_⟩:=hw
  have n8:∀i,i<len->∃b:α,w.cells? 0 (a.add (i*s)) s=some (lay b)/\cu b/\size b<=Rows.uptoBulk (D i):=fun i hi=>by
   obtain ⟨cs',h1,h2⟩:=hx i oZ
   rw [hs] at h1
   have hlen:cs'.length=s:=(World.cells?_some h1).2.1
   obtain ⟨b,rfl,hb,bu⟩:=hd _ _ _ h2 hlen (List.all_eq_true.2 fun n hn=>List.all_eq_true.1 MN n (na (List.mem_map.2 ⟨i,by simpa using hi,rfl⟩) n hn))
   exact ⟨b,h1,hb,bu⟩
  obtain ⟨al,Mg,has⟩:=VY n8
  have Xn:∀b∈al,cu b:=fun b hb=>by
   obtain ⟨i,hi⟩:=List.getElem?_of_mem hb
   exact (has i b hi).2.1
  have pR:∀b∈al,(lay b).length=s:=fun b hb=>by
   obtain ⟨i,hi⟩:=List.getElem?_of_mem hb
   exact (World.cells?_some (has i b hi).1).2.1
  have hlen:=Fj pR
  refine ⟨(.slice (some a) len m,al),rfl,⟨some a,m,by rw [Mg],by simp only [Mg];exact hl, ?_, ?_,Xn⟩, ?_⟩
  ·rw [hz,show len+(m - len)=m by omega] at R7
   exact R7
  ·simp only [Mg]
   refine ⟨by rw [hlen,Mg],fun u hu => ?_,by omega, ?_⟩
   ·obtain ⟨b,hb,hu⟩:=List.mem_flatMap.1 hu
    exact one b (Xn b hb) u hu
   ·by_cases Km:len=0
    ·exact .inl ⟨Km,some a,m,by rw [Km]⟩
    ·obtain ⟨b0,I8, -⟩:=n8 0 oZ
     have Un:=(World.cells?_some I8).2.2 0 h0
     have Kq:(lay b0).length=s:=(World.cells?_some I8).2.1
     rw [List.getElem?_eq_getElem oZ] at Un
     obtain ⟨b,off,spot⟩:=a
     simp only [World.cell?,Addr.add,Nat.zero_mul,Nat.add_zero] at Un
     split at Un
     ·rename_i l T fr hh
      have hh':w.heap[b]? = some (.cells l T fr):=hh
      cases spot with
      | some q=>simp at Un
      | none =>
       refine .inr ⟨b,off,m,l,T,fr,rfl,Bg hh', ?_⟩
       have:=flat_get (lay:=lay) (asx:=al) (s:=s) (l:=l) (off:=off) pR 0 (fun i c hc j v hv=>by
        obtain ⟨h1,_⟩:=has i c hc
        have jk:(lay c).length=s:=(World.cells?_some h1).2.1
        have hj:j<s:=by
         have:=(List.getElem?_eq_some_iff.1 hv).1
         omega
        have h3:=(World.cells?_some h1).2.2 j hj
        rw [Addr.add_lit,Addr.add_lit,iV hh',hv] at h3
        rw [Nat.zero_add]
        exact h3)
       simpa using this
     ·cases Un
  ·have:=Fk (size:=size) (al:=al) (ds:=(List.range len).map D) (by simp [Mg]) (fun i b d hb hd=>by
    rw [List.getElem?_map] at hd
    have hi:=(List.getElem?_eq_some_iff.1 hb).1
    rw [List.getElem?_range oZ] at hd
    cases hd
    exact (has i b hb).2.2)
   simp only [Rows.uptoBulk];omega
theorem Bi.arg (hd:Bi enc P w t 1 lay cu size){v:Value}{d:DataW H}{p:List MemPlace}(h:DataW.Trod enc P w 0 (fun _=>true) true t v d p)(h1:v.cells.toList=[v]){ts:List TypeId}{ds:List (DataW H)}
  (hw:(DataW.weightsEach P ts ds).all (· <= reachBytes)=true) (hk:Rows.uptoSmall H ds=true) {j:Nat} (ht:ts[j]? = some t) (hdj:ds[j]? = some d):∃a,[v]=lay a/\cu a/\size a<=1048576:=by
 obtain ⟨n,hn⟩:=h
 rw [h1] at hn
 obtain ⟨a,h2,h3,h4⟩:=hd n _ _ hn rfl (List.all_eq_true.2 fun k hk=>List.all_eq_true.1 hw k (DataW.weights_mem_each ht hdj k hk))
 have hb:Rows.uptoBulkAll ds<=1048576:=of_decide_eq_true hk
 have:=nH (List.mem_of_getElem? hdj)
 have h5:size a<=Rows.uptoBulk d:=h4
 exact ⟨a,h2,h3,by omega⟩
end
section
variable {H:Type}{enc:TypeId×Value->H}{P:Program}{w:World}{t e:TypeId}{s:Nat}{α:Type}{lay:α->List Value}{cu:α->Prop}{size:α->Nat}
theorem Bi.afb (hd:Bi enc P w t s lay cu size){cs:Array Value}{d:DataW H}{p:List MemPlace}(h:DataW.Trod enc P w 0 (fun _=>true) true t (.agg cs) d p)(h1:cs.size=s){ts:List TypeId}{ds:List (DataW H)}
  (hw:(DataW.weightsEach P ts ds).all (· <= reachBytes)=true) (hk:Rows.uptoSmall H ds=true) {j:Nat} (ht:ts[j]? = some t) (hdj:ds[j]? = some d):∃a,cs=(lay a).toArray/\cu a/\size a<=1048576:=by
 obtain ⟨n,hn⟩:=h
 obtain ⟨a,h2,h3,h4⟩:=hd n _ _ hn (by rw [Array.length_toList];exact h1) (List.all_eq_true.2 fun k hk=>List.all_eq_true.1 hw k (DataW.weights_mem_each ht hdj k hk))
 have hb:Rows.uptoBulkAll ds<=1048576:=of_decide_eq_true hk
 have:=nH (List.mem_of_getElem? hdj)
 have h5:size a<=Rows.uptoBulk d:=h4
 exact ⟨a,by rw [<-h2];rfl,h3,by omega⟩
theorem HN {fs:Array Field}(i off:Nat){ft:TypeId}(ht:P.underlying t=some (.struct fs)){n:Nat}{cs:List Value}{x:DataW H×List MemPlace}(h:DataW.trod enc P w 0 (fun _=>true) true n t cs=some x)(hw:(x.1.weights P t).all (· <= reachBytes)=true)
  (hf:(fs[i]?).map (fun f=>(f.type,f.offset))=some (ft,off)) (hc:P.cellsOf ft=s) (hd:Bi enc P w ft s lay cu size) (hs:off+s<=cs.length):∃a,(cs.drop off).take s=lay a/\cu a/\size a+1<=Rows.uptoBulk x.1:=by
 rw [Option.map_eq_some_iff] at hf
 obtain ⟨f,h1,h2⟩:=hf
 cases h2
 obtain ⟨xs,m,rfl,rfl,hl,Wn,hx⟩:=DataW.trod_struct ht h
 have hi:i<fs.size:=(Array.getElem?_eq_some_iff.1 h1).1
 have h3:=hx i f h1
 rw [List.getElem?_eq_getElem oZ] at h3
 have fH:((cs.drop f.offset).take (P.cellsOf f.type)).length=s:=by rw [hc,List.length_take,List.length_drop];omega
 obtain ⟨a,h4,h5,h6⟩:=hd _ _ _ h3 fH (List.all_eq_true.2 fun k hk=>by
  simp only [DataW.weights,ht] at hw
  exact List.all_eq_true.1 hw k (DataW.weights_mem_each (j:=i) (by simpa using ⟨f,h1,rfl⟩) (by simp [List.getElem?_eq_getElem (show i<xs.length by omega)]) k hk))
 rw [hc] at h4
 refine ⟨a,h4,h5, ?_⟩
 have hp:=nH (H:=H) (d:=(xs[i]'oZ).1) (l:=xs.map (·.1)) (List.mem_map.2 ⟨_,List.getElem_mem _,rfl⟩)
 simp only [Rows.uptoBulk]
 omega
end
theorem RN {α:Type}(l:List α):(l.map fun _=>1).sum=l.length:=by
 induction l with
 | nil=>rfl
 | cons a l ih=>rw [List.map_cons,List.sum_cons,ih,List.length_cons,Nat.add_comm]
structure aax (W:World)(e:nS×List UInt8):Prop where
 b:∃ad c,e.1.b = .slice ad e.2.length c/\e.2.length<=c/\Rd (old W) 1 e.1.b e.2.length (ak e.2)
 x:e.1.x<=9223372036854775807/\e.1.y<=9223372036854775807
 nt:e.1.nt<18446744073709551616
theorem aay {W:World}(x:nS×List UInt8)(h:aax W x):∀u∈nS.lay x.1,u.oneCell'=true:=fun u hu=>by
 obtain ⟨ad,c,hb, -⟩:=h.b
 simp only [nS.lay,hb,List.mem_cons,List.not_mem_nil,or_false] at hu
 rcases hu with rfl | rfl | rfl | rfl | rfl | rfl | rfl <;> rfl
section
variable {H:Type}{enc:TypeId×Value->H}{w:World}
theorem V3:Jw enc Tryz.prog w 23 3 Tp.lay (fun _=>True):=fun n cs x h hlen hw=>by
 match cs,hlen with
 | [c0,c1,c2],_ =>
 have ki:Tryz.prog.cellsOf 3=1:=by kernel_rfl
 have ht:=Tryz.underlying23
 obtain ⟨a0,e0,h0⟩:=eP 0 0 ht h hw rfl ki (jf (enc:=enc) Tryz.underlying3) (by simp)
 obtain ⟨a1,e1,h1⟩:=eP 1 1 ht h hw rfl ki (jf (enc:=enc) Tryz.underlying3) (by simp)
 obtain ⟨a2,e2,h2⟩:=eP 2 2 ht h hw rfl ki (jf (enc:=enc) Tryz.underlying3) (by simp)
 simp only [List.drop_succ_cons,List.drop_zero,List.take_succ_cons,List.take_zero,List.cons.injEq,and_true] at e0 e1 e2
 subst e0 e1 e2
 exact ⟨⟨a0,a1,a2⟩,rfl,trivial⟩
theorem V4:Bi enc Tryz.prog w 33 7 (fun x:nS×List UInt8=>nS.lay x.1) (aax w) (fun x=>x.2.length+1):=fun n cs x h hlen hw=>by
 match cs,hlen with
 | [c0,c1,c2,c3,c4,c5,c6],_ =>
 have ki:Tryz.prog.cellsOf 3=1:=by kernel_rfl
 have ku:Tryz.prog.cellsOf 30=1:=by kernel_rfl
 have kb:Tryz.prog.cellsOf 31=1:=by kernel_rfl
 have ht:=Tryz.underlying33
 obtain ⟨a0,e0,h0⟩:=eP 0 0 ht h hw rfl ki (jf (enc:=enc) Tryz.underlying3) (by simp)
 obtain ⟨a1,e1,h1⟩:=eP 1 1 ht h hw rfl ki (jf (enc:=enc) Tryz.underlying3) (by simp)
 obtain ⟨a2,e2,h2⟩:=eP 2 2 ht h hw rfl ki (jf (enc:=enc) Tryz.underlying3) (by simp)
 obtain ⟨a3,e3,h3⟩:=eP 3 3 ht h hw rfl ki (jf (enc:=enc) Tryz.underlying3) (by simp)
 obtain ⟨a4,e4,h4⟩:=eP 4 4 ht h hw rfl ki (jf (enc:=enc) Tryz.underlying3) (by simp)
 obtain ⟨a5,e5,h5⟩:=eP 5 5 ht h hw rfl ku (VX (enc:=enc) Tryz.underlying30) (by simp)
 obtain ⟨⟨v6,l6⟩,e6,g6,s6⟩:=HN 6 6 ht h hw rfl kb (w9 (enc:=enc) (s:=1) (sz:=1) Tryz.underlying31 yZ dZ yZ (Bj (aaw Tryz.underlying5)) (fun _ _ u hu=>by rw [List.mem_singleton.1 hu];rfl)) (by simp)
 simp only [List.drop_succ_cons,List.drop_zero,List.take_succ_cons,List.take_zero,List.cons.injEq,and_true] at e0 e1 e2 e3 e4 e5 e6
 subst e0 e1 e2 e3 e4 e5 e6
 obtain ⟨ad,c,g1,g2, -,g3, -⟩:=g6
 simp only at g1 g2 g3 s6
 rw [RI] at g3
 have o6:(l6.map fun _=>1).sum=l6.length:=RN l6
 exact ⟨(⟨a0,a1,a2,a3,a4,a5,c6⟩,l6),rfl,⟨⟨ad,c,g1,g2,g3⟩,⟨h3.2,h4.2⟩,h5⟩,by simp only;omega⟩
end
theorem RO {W:World}(h:laidMetH Tryz.prog [("undercroft/sum.rounds",Rows.laid_undercroft_sum_rounds)] W):∃T fr,(0,Obj.cells (eT nJ).toArray T fr)∈old W:=by
 rw [MakeChecks.laidMetH_plain _ _ _ yZ] at h
 obtain ⟨ps,⟨g0,t0,cs,f0,p0,q0,hg0,ht0,hv,hd0,_,_⟩,_,_⟩:=h
 have a0:Tryz.prog.globalNamed "undercroft/sum.rounds" = some 0:=by kernel_rfl
 obtain rfl:=Option.some.inj (a0.symm.trans hg0)
 obtain rfl:=Option.some.inj ((show (Tryz.prog.globals[(0:Nat)]?).map (·.type)=some 366 by kernel_rfl).symm.trans ht0)
 have ce:Tryz.prog.cellsOf 287=1:=by kernel_rfl
 have ct:Tryz.prog.cellsOf 366=64:=by kernel_rfl
 have hd:DataW.trod (fun _:TypeId×Value=>()) Tryz.prog W 0 (fun _=>true) false f0 366 cs.toList=some (DataW.agg (nJ.map fun n=>.lit (.int .u32 n)),p0):=hd0
 obtain ⟨xs,k,_,ex,hlen,hl,JF⟩:=DataW.trod_array Tryz.underlying366 hd
 rw [ct] at hlen
 have e3:(xs.map (·.1))=nJ.map fun n=>(DataW.lit (.int .u32 n):DataW Unit):=(DataW.agg.inj (Prod.mk.inj ex).1).symm
 have MT:cs.toList=eT nJ:=by
  apply List.ext_getElem?
  intro i
  rcases Nat.lt_or_ge i 64 with hi | hi
  ·have hE:=JF i hi
   have jh:i<nJ.length:=hi
   rw [ce,Nat.mul_one,List.getElem?_eq_getElem oZ] at hE
   obtain ⟨z,e1,e2,_⟩:=DataW.trod_int Tryz.underlying287 hE
   have e4:(xs.map (·.1))[i]? = (nJ.map fun n=>(DataW.lit (.int .u32 n):DataW Unit))[i]?:=by rw [e3]
   rw [List.getElem?_map,List.getElem?_map,List.getElem?_eq_getElem (by omega:i<xs.length),List.getElem?_eq_getElem jh,e2] at e4
   simp only [Option.map_some,Option.some.injEq,DataW.lit.injEq,Lit.int.injEq,true_and] at e4
   have h0:((cs.toList.drop i).take 1)[0]? = some (.int .u32 z):=by rw [e1];rfl
   have h1:cs.toList[i]? = some (.int .u32 z):=by simpa using h0
   rw [h1,e4,eT,List.getElem?_map,List.getElem?_eq_getElem jh]
   rfl
  ·rw [List.getElem?_eq_none oZ,List.getElem?_eq_none (by rw [eT,List.length_map];exact hi)]
 simp only [World.var?,a0,Option.bind_some] at hv
 split at hv
 ·rename_i c T fr hh
  cases hv
  exact ⟨T,fr,Bg (by rw [<-MT];simpa using hh)⟩
 ·cases hv
def V5 (W:World)(g:Nat):Chunk:=(old W).filter fun x=>decide (x.1≠g)
theorem V6 {W:World}{g:Nat}{o:Obj}(h:(g,o)∈old W):(old W).Perm ([(g,o)]++V5 W g):=by
 have hn:=(qJ W).1
 unfold V5
 generalize old W=L at *
 induction L with
 | nil=>cases h
 | cons x r ih =>
  rw [List.map_cons,List.nodup_cons] at hn
  by_cases c:x.1=g
  ·have hx:(g,o)=x:=by
    rcases List.mem_cons.1 h with h | h
    ·exact h
    ·exact absurd (List.mem_map.2 ⟨_,h,rfl⟩) (by rw [<-c] at *;exact hn.1)
   subst hx
   rw [List.filter_cons_of_neg (by simp),List.filter_eq_self.2 fun y hy=>by
    simp only [ne_eq,decide_not,Bool.not_eq_true',decide_eq_false_iff_not]
    intro hc
    exact hn.1 (List.mem_map.2 ⟨y,hy,hc⟩)]
   exact List.Perm.refl _
  ·have h':(g,o)∈r:=by
    rcases List.mem_cons.1 h with h | h
    ·subst h;exact absurd rfl c
    ·exact h
   rw [List.filter_cons_of_pos (by simpa using c)]
   exact ((ih h' hn.2).cons x).trans (List.Perm.swap ..)
theorem Rd.off {W:World}{g s n:Nat}{v:Value}{xs:List Value}{T:TypeId}{fr:Nat×Nat}(ho:(g,Obj.cells (eT nJ).toArray T fr)∈old W)(h:Rd (old W) s v n xs)(hx:∀x∈xs,∀z,x ≠ .int .u32 z)(hs:0<s):Rd (V5 W g) s v n xs:=by
 obtain ⟨h1,h2,h3,h4⟩:=h
 refine ⟨h1,h2,h3, ?_⟩
 rcases h4 with h4 | ⟨b,off,c,l,T',bW,e,hm,iY⟩
 ·exact .inl h4
 ·by_cases hn:n=0
  ·exact .inl ⟨hn,_,c,by rw [e,hn]⟩
  ·refine .inr ⟨b,off,c,l,T',bW,e,List.mem_filter.2 ⟨hm,decide_eq_true fun hc => ?_⟩,iY⟩
   have hc:b=g:=hc
   subst hc
   have e1:=(qJ W).2 _ hm
   have e2:=(qJ W).2 _ ho
   simp only at e1 e2
   rw [e1] at e2
   cases e2
   have hl:0<xs.length:=by rw [h1];exact Nat.mul_pos oZ hs
   have h5:=iY 0 xs[0] (by rw [List.getElem?_eq_getElem hl])
   have h6:xs[0]∈eT nJ:=by
    have:=List.mem_of_getElem? (l:=eT nJ) (i:=off+0) (a:=xs[0]) (by simpa using h5)
    exact this
   obtain ⟨z, -,hz⟩:=List.mem_map.1 h6
   exact hx _ (List.getElem_mem hl) z hz.symm
theorem HO (W:World)(hL:laidMetH Tryz.prog Rows.topTwiceUptoRow.laid W)(X0:Tp)(_:True)(_:1<=1048576)(X1:Value×List (nS×List UInt8))(g1:acy W 7 72 (fun x:nS×List UInt8=>nS.lay x.1) (aax W) X1)(s1:(X1.2.map fun x=>x.2.length+1).sum+1<=1048576)
  (j:Int) (_ : -9223372036854775808<=j/\j<=9223372036854775807) (_:1<=1048576) :
  Sx Tryz.prog 3 #[.agg X0.lay.toArray,X1.1,.int .i64 j] W fun u w'=>u = .bool true/\l9 W w' [old W] [old W]:=by
 obtain ⟨T,fr,ho⟩:=RO hL
 have hp:=V6 ho
 have acz:Hp W [old W]:=aav W
 by_cases hc:¬X0.qk\/j<1\/6<j
 ·refine (((Qu X0 X1.1 j hc).dg (P':=fun u Bs=>u = .bool true/\Bs=[old W]) (old W) (by simp) ⟨rfl,rfl⟩) W acz).mono ?_
  rintro u w' ⟨Bs,⟨hu,rfl⟩,ht⟩
  exact ⟨hu,ht⟩
 ·have aaz:X0.qk:=Classical.byContradiction fun h=>hc (.inl h)
  obtain ⟨j,rfl⟩:∃k:Nat,j=k:=⟨j.toNat,by omega⟩
  have hj:1<=j/\j<=6:=by omega
  have h2:X0.bz.toNat<=2048:=by have:=aaz.2.1;omega
  obtain ⟨v,l⟩:=X1
  obtain ⟨ad,c,hv,hlc, -,hR,hG⟩:=g1
  simp only at s1 hR hG hlc hv ⊢
  subst hv
  have hlen:=RL (al:=l) (size:=fun x:nS×List UInt8=>x.2.length+1) (fun _=>by omega)
  have jH:(l.flatMap fun x=>nS.lay x.1)=(l.map (·.1)).flatMap nS.lay:=by rw [List.flatMap_map]
  rw [jH] at hR
  have eL:∀x∈(l.map (·.1)).flatMap nS.lay,∀z,x ≠ .int .u32 z:=fun x hx z=>by
   obtain ⟨o,ho,hx⟩:=List.mem_flatMap.1 hx
   obtain ⟨y,hy,rfl⟩:=List.mem_map.1 ho
   obtain ⟨ad,c,hb, -⟩:=(hG y hy).b
   simp only [nS.lay,hb,List.mem_cons,List.not_mem_nil,or_false] at hx
   rcases hx with rfl | rfl | rfl | rfl | rfl | rfl | rfl <;> simp
  have hA:=Rd.off ho hR eL dZ
  have Mt:(l.map (·.1)).length=l.length:=List.length_map ..
  have ct:=L8 (T:=T) (fr:=fr) aaz (ZE aaz) h2 rfl j hj (V5 W 0) (l.map (·.1)) (by rw [Mt];omega) (fun o dI=>by
   obtain ⟨y,hy,rfl⟩:=List.mem_map.1 dI
   obtain ⟨⟨ad,c,hb,WG,hr⟩,hx,hn⟩:=hG y hy
   have bu:=RK (size:=fun x:nS×List UInt8=>x.2.length+1) hy
   refine ⟨⟨ad,y.2.length,c,y.2,hb, ?_,rfl,WG,by omega⟩,by omega,hn⟩
   rw [<-hb]
   exact Rd.off ho hr (fun x hx z=>by
    obtain ⟨b, -,rfl⟩:=List.mem_map.1 hx
    simp) dZ) ad c (by rw [Mt];exact hA)
  rw [Mt] at ct
  refine ((ct.on (Ls:=[old W]) (P':=fun u Bs=>u = .bool true/\Bs=[old W]) (Rs:=[]) (by simpa using hp) ?_) W acz).mono ?_
  ·rintro u Bs ⟨hu,Z,rfl⟩
   refine ⟨[old W],Z.flatten,⟨hu,rfl⟩, ?_⟩
   simp only [List.flatten_cons,List.flatten_nil,List.append_nil]
   rw [<-List.append_assoc]
   exact (hp.symm).append_right _
  ·rintro u w' ⟨Bs,⟨hu,rfl⟩,ht⟩
   exact ⟨hu,ht⟩
end Go.Proofs.YteldablklnfblaaGreatDoor
namespace Go.Sl
open Go.ChangeShapes Go.WideShapes Go.ChangeAt Go.RowKit
section
variable {H:Type}{enc:TypeId×Value->H}{P:Program}
theorem xa (hl:laidOutB P=true){W W':World}(hb:Below W.heap.size W W'){sp:Nat->Bool}:∀(ts:List TypeId) (vs:List Value) (ds:List (DataW H)) (ps:List MemPlace),
  (∀t∈ts,P.readableRec t=true/\t<P.types.size)->DataW.TrodAll enc P W 0 (fun _=>true) true ts vs ds ps->(∀x∈ps,x.block<W.heap.size)->(∀x∈ps,sp x.block=true)->DataW.TrodAll enc P W' 0 sp true ts vs ds ps
 | [],vs,ds,ps,_,h,_,_=>by
  obtain ⟨rfl,rfl,rfl⟩:=trodAll_nil h
  exact trodAll_mk0
 | t :: ts,vs,ds,ps,ht,h,bo,Pr=>by
  obtain ⟨v0,vs0,d0,ds0,p0,q0,rfl,rfl,rfl,h0,r0⟩:=trodAll_cons h
  refine trodAll_cons_mk ?_ (xa hl hb ts vs0 ds0 q0 (fun u hu=>ht u (List.mem_cons_of_mem _ hu)) r0 (fun x hx=>bo x (List.mem_append_right _ hx)) (fun x hx=>Pr x (List.mem_append_right _ hx)))
  exact WideElems.Trod_stays hl (ht t (List.mem_cons_self ..)).1 (ht t (List.mem_cons_self ..)).2 h0 (fun x hx=>hb.same (bo x (List.mem_append_left _ hx))) (fun x hx=>Pr x (List.mem_append_left _ hx))
theorem HP {f:Func}{s:ChangeSpec}{apart fresh handsOn again:Bool}{W W':World}{args:Array Value}{ds gs:List (DataW H)}{before:List MemPlace}{tb:TypeId}
  (hl:laidOutB P=true) (hW:DataW.Whole enc P f.params.toList s.vars apart W args.toList ds gs before) (Xo:s.vars=[])
  (hts:∀t∈f.params.toList,P.readableRec t=true/\t<P.types.size) (hrt:f.resultTypes=#[tb]) (htb:P.underlying tb=some .bool)
  (hs:(s.fn H (ds++gs))={ results:=[.lit (.bool true)],args:=ds }) (hb:Below W.heap.size W W') :
  s.post enc P f apart fresh handsOn again W args (.bool true) W':=by
 have bo:∀p∈before,p.block<W.heap.size:=fun p hp=>hW.lt p hp
 obtain ⟨p,q,hA,hV,rfl,hz,hn⟩:=id hW
 rw [Xo] at hV
 obtain ⟨rfl,rfl⟩:=trodVars_none hV
 simp only [List.append_nil] at *
 have RP:∀sp:Nat->Bool,(∀x∈p,sp x.block=true)->DataW.TrodAll enc P W' 0 sp true f.params.toList args.toList (s.fn H ds).args p:=fun sp Pr=>by
  rw [hs];exact xa hl hb _ _ _ _ hts hA bo Pr
 have El:∀(b:Nat) (sp:Nat->Bool) (hd:Bool),DataW.TrodAll enc P W' b sp hd f.resultTypes.toList ((Value.bool true).resultList f.resultTypes.size) (s.fn H ds).results []:=fun b sp hd=>by
  rw [hs,hrt];exact trodAll_mk1 (shut_bool htb true)
 have hvs:∀sp:Nat->Bool,DataW.TrodVars enc P W' sp s.vars (s.fn H ds).vars []:=fun sp=>by
  rw [Xo,hs];exact rfl
 refine ⟨ds,[],p,[],p,[],hW,by simpa using El _ _ _,by simpa using RP _ (fun x hx=>by simpa using bo x hx),by simpa using hvs _,World.keptBut_mono (fun x hx=>⟨hx, ?_⟩) (hb.frame (· ∈ p)),fun _ => ?_⟩
 ·exact Or.inr (Or.inl hx)
 ·have aQ:∀(j:Nat) (t:TypeId) (r:Value),f.resultTypes[j]? = some t->((Value.bool true).resultList f.resultTypes.size)[j]? = some r->Value.okWide P W' .any 0 t r :=
   ok_one hrt rfl (okWide_bool_mk htb true)
  have h1:=trodAll_append (RP (fun _=>true) (fun _ _=>rfl)) (El 0 (fun _=>true) true)
  refine ⟨aQ,_,[],[]++p,⟨[]++p,[],h1,by have:=hvs (fun _=>true);rw [hs] at this;exact this,by simp, ?_, ?_⟩,fun x hx _=>by simpa using hx⟩
  ·intro b off hx
   have jG:MemPlace.cell b off∈p:=by simpa using hx
   rw [hb.frozen (bo _ jG)]
   exact hz b off jG
  ·intro ha
   simpa using hn ha
end
end Go.Sl
