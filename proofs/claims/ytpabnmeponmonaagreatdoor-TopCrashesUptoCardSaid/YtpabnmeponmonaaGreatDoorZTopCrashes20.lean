/-
  20.
-/
import Derived.Test.YtpabnmeponmonaaGreatDoorZTopCrashes19
set_option maxRecDepth 10000
set_option maxHeartbeats 4000000
open List Go.Proofs.Tryz Go.Sl
namespace Go.Sl
def yN (z:Int):Option Nat:=if z<0 then none else some z.toNat
theorem SI (z:Int):oJ (yN z)=max (-1) z:=by
 unfold yN
 split
 ·simp only [oJ];omega
 ·simp only [oJ];omega
end Go.Sl
namespace Go.Proofs.YtpabnmeponmonaaGreatDoor
theorem abc (p:Nat)(qs:List Nat)(R:Rk)(C:Chunk)(hC:bj p qs R C)(x:Int)(hx : -9223372036854775808<=x/\x<=9223372036854775807):Ct 7 [ptr p,.int .i64 x] [C] fun _ Bs=>∃C',bj p qs { R with left:=yN x } C'/\Bs=[C']:=by
 obtain ⟨xs,vw,vd,Cw,Cd,z,x8,hn,hl,aO,ZK,hw,hd,rfl⟩:=hC
 refine st func7 fun w0 => ?_
 refine gs ?_
 refine go ?_
 rw [show max (-1:Int) x=oJ (yN x) from (SI x).symm]
 refine gz ?_
 exact fin ⟨[(p,Lp vw (yN x) R.off z vd)]++(Cw++(Cd++mW p xs R.ds)),⟨xs,vw,vd,Cw,Cd,z,x8,hn,hl,⟨aO.len,aO.sec,aO.ws⟩,fun n hn=>by unfold yN at hn;split at hn <;> cases hn;omega,hw,hd,rfl⟩,rfl⟩ aa
theorem adB (p:Nat)(qs:List Nat)(R:Rk)(C:Chunk)(hC:bj p qs R C)(yc:qs.length<=1000)(Ji:R.ws.length<=900000000000)(stay:List Bool)(A:Chunk)(dy:Option Addr)(mS cS:Nat)(hmS:stay.length=mS)(hA:Rd A 1 (.slice dy mS cS) mS (stay.map .bool)):Ct 10 [ptr p,.slice dy mS cS] [C,A] fun _ Bs=>∃C',bj p qs (R.up stay) C'/\Bs=[C',A]:=by
 subst hmS
 obtain ⟨xs,vw,vd,Cw,Cd,z,hx,hn,hl,aO,ZK,hw,hd,rfl⟩:=hC
 have hwR:=hw.rd
 have hdR:=hd.rd
 have agb:qs.length=R.ds.length:=by rw [<-hx,length_map,hl]
 obtain ⟨ad,c,rfl⟩:=hw.slice
 obtain ⟨bz,c',rfl⟩:=hd.slice
 refine Go.Proofs.YtpabnmeponmonaaGreatDoor.st func10 fun w0 => ?_
 refine gs ?_
 rw [show mW p xs R.ds=mW p xs (qh R.ds R.ws stay 0) from rfl]
 refine gl [0,1,11,12] (fun j:Nat=>[(13,.int .i64 j)]) (fun j=>[mW p xs (qh R.ds R.ws stay j)]) (fun j=>j<=R.ws.length) (fun j=>R.ws.length - j) 0 (Nat.zero_le _) ?_
 intro j hj
 refine gi ?_ ?_ <;> intro br
 ·obtain ⟨w,PJ⟩:=eC (show j<R.ws.length by omega)
  have Nv:=mem_of_getElem? PJ
  have PI:∀w∈R.ws,w.b.length=128:=fun w hw=>(aO.ws w hw).2
  have jv:=PH qs PI PJ
  have pL:=Wt.ak qs (PI w Nv)
  have fJ:=Wt.bK qs w
  have l8:=uS (st:=stay) (fun w hw=>(aO.ws w hw).2) (fun x hx=>⟨(aO.len x hx).1,(aO.len x hx).2,aO.sec x hx⟩) j
  have agc:=uR R.ds R.ws stay j
  obtain ⟨g,off,rfl⟩:=hwR.addr oZ
  refine ga ?_;intro b6
  by_cases bB:j<stay.length/\(stay[j]?).getD false=true
  ·obtain ⟨agd,Lk⟩:=bB
   obtain ⟨gS,oS,rfl⟩:=hA.addr oZ
   have UN:(stay.map Value.bool)[j]? = some (.bool true):=by
    rw [getElem?_map]
    rw [getElem?_eq_getElem agd] at Lk ⊢
    simp only [Option.getD_some] at Lk
    rw [Lk];rfl
   have SJ:qh R.ds R.ws stay (j+1)=(qh R.ds R.ws stay j).modify w.d fun x=>{ x with bP:=x.bP.set w.at_ w.b }:=by rw [qh,PJ];simp only [Lk,if_true]
   obtain ⟨US,hUS⟩:∃US,US=qh R.ds R.ws stay j:=⟨_,rfl⟩
   rw [<-hUS] at l8 SJ agc ⊢
   have WX:=aO.ws w Nv
   have kA:w.d<R.ds.length:=by
    have h1:=WX.1
    unfold Rk.size at h1
    rcases Nat.lt_or_ge w.d R.ds.length with c | c
    ·exact c
    ·rw [getElem?_eq_none c] at h1;simp at h1
   obtain ⟨x,x8⟩:=eC (l:=xs) (i:=w.d) oZ
   obtain ⟨d,hd1⟩:=eC (l:=US) (i:=w.d) oZ
   have hdm:=mem_of_getElem? hd1
   obtain ⟨vV,lV,U3,hs4⟩:=l8 d hdm
   have bu:w.at_<d.bP.length:=by
    have h1:=WX.1
    have h2:=uQ R.ds R.ws stay w.d j
    rw [<-hUS,hd1] at h2
    unfold Rk.size at h1
    cases hy:R.ds[w.d]? with
    | none=>rw [hy] at h2;cases h2
    | some y =>
     rw [hy] at h1 h2
     simp only [Option.map_some,Option.some.injEq,Prod.mk.injEq] at h2
     have h3:=h2.1
     have h4:=(aO.len y (mem_of_getElem? hy)).1
     simp only [Option.map_some,Option.getD_some] at h1
     omega
   have hqd:qs.getD w.d 0=x.q:=by rw [<-hx];simp [List.getD,x8]
   obtain ⟨_,hde⟩:=List.getElem?_eq_some_iff.1 hd1
   obtain ⟨uw,x6⟩:=List.getElem?_eq_some_iff.1 x8
   have JF:∀(d':Dk),mW p xs (US.take w.d++d' :: US.drop (w.d+1))=mW p (xs.take w.d) (US.take w.d)++PF p x.q x.g1 x.g2 d' (mW p (xs.drop (w.d+1)) (US.drop (w.d+1))):=fun d'=>by
    conv=>lhs;rw [show xs=xs.take w.d++x :: xs.drop (w.d+1) by rw [<-x6,<-drop_eq_getElem_cons,take_append_drop]]
    rw [qN p _ _ (by simp;omega)];rfl
   have h1:US=US.take w.d++d :: US.drop (w.d+1):=by rw [<-hde,<-drop_eq_getElem_cons,take_append_drop]
   have h2:US.modify w.d (fun x=>{ x with bP:=x.bP.set w.at_ w.b })=US.take w.d++{ d with bP:=d.bP.set w.at_ w.b } :: US.drop (w.d+1):=by
    conv=>lhs;rw [h1]
    rw [pK (by simp;omega)]
   have e1:=fG U3
   have eQ:=Jo U3 w.b bu
   have hn8:(w.at_+1)*128 - w.at_*128=128:=oZ
   have ach:(au d.bP.flatten).take (w.at_*128)++(au w.b).take (min 128 128)++(au d.bP.flatten).drop (w.at_*128+min 128 128)=au (d.bP.set w.at_ w.b).flatten:=by
    rw [Nat.min_self,aQ,bo,aQ,<-aG,<-aG,take_of_length_le (l:=w.b) (by have:=WX.2;omega),eQ]
   have hdw:PF p x.q x.g1 x.g2 { d with bP:=d.bP.set w.at_ w.b } (mW p (xs.drop (w.d+1)) (US.drop (w.d+1)))=[(x.q,dkO p x.g1 x.g2 d.now.length d.dead)]++([(x.g1,bO (d.bP.set w.at_ w.b))]++([(x.g2,bO d.now)]++mW p (xs.drop (w.d+1)) (US.drop (w.d+1)))):=rfl
   rw [h1,JF d]
   refine gs ?_
   have hlw:Wt.lay qs w=[ptr x.q,.int .i64 w.at_]++au w.b:=by rw [Wt.lay,hqd]
   rw [hlw] at pL fJ ⊢
   have hrp:Rd [(b6,ax ([ptr x.q,.int .i64 w.at_]++au w.b) 85)] 1 (.slice (some ⟨b6,2,none⟩) 128 128) 128 (au w.b):=by
    have:=qu (g:=b6) (T:=85) (m:=128) [ptr x.q,.int .i64 w.at_] (au w.b) [] (by rw [aq];exact WX.2) (aP _) oZ 128
    rwa [append_nil] at this
   refine gd [0,4,8,12,16,20,24,28,32,40,44,37,51] ?_
   refine ge ?_
   refine gv ?_
   refine gy ?_
   refine gn ?_
   refine ⟨j+1,by omega,by omega,ar, ?_⟩
   rw [SJ,h2,JF,hdw]
   exact ⟨_,aa⟩
  ·have SJ:qh R.ds R.ws stay (j+1)=qh R.ds R.ws stay j:=by
    rw [qh,PJ]
    by_cases c:j<stay.length
    ·have:(stay[j]?).getD false≠true:=fun h=>bB ⟨c,h⟩
     simp [this]
    ·rw [getElem?_eq_none oZ];simp
   by_cases c:j<stay.length
   ·obtain ⟨gS,oS,rfl⟩:=hA.addr oZ
    have UN:(stay.map Value.bool)[j]? = some (.bool false):=by
     rw [getElem?_map,getElem?_eq_getElem c]
     have:stay[j]≠true:=fun h=>bB ⟨c,by rw [getElem?_eq_getElem c,h];rfl⟩
     simp at this;rw [this];rfl
    refine gn ?_
    refine ⟨j+1,by omega,by omega,ar, ?_⟩
    rw [SJ]
    exact ⟨_,aa⟩
   ·refine gn ?_
    refine ⟨j+1,by omega,by omega,ar, ?_⟩
    rw [SJ]
    exact ⟨_,aa⟩
 ·obtain rfl:j=R.ws.length:=oZ
  obtain ⟨DS,RI⟩:∃DS,DS=qh R.ds R.ws stay R.ws.length:=⟨_,rfl⟩
  have adJ:DS.length=R.ds.length:=by rw [RI];exact uR ..
  have l8:=uS (st:=stay) (fun w hw=>(aO.ws w hw).2) (fun x hx=>⟨(aO.len x hx).1,(aO.len x hx).2,aO.sec x hx⟩) R.ws.length
  rw [<-RI] at l8 ⊢
  have zt:∀x∈DS,x.bP.length=x.now.length/\x.now.length<=8192:=fun x hx=>⟨(l8 x hx).1,(l8 x hx).2.1⟩
  have hDs:∀x∈DS,(∀s∈x.bP,s.length=128)/\∀s∈x.now,s.length=128:=fun x hx=>(l8 x hx).2.2
  rw [<-adJ] at hl agb
  rw [show DS=(DS.take 0).map Dk.back++DS.drop 0 by simp]
  refine gl [0,54,55] (fun i:Nat=>[(56,.int .i64 i)]) (fun i=>[mW p xs ((DS.take i).map Dk.back++DS.drop i)]) (fun i=>i<=DS.length) (fun i=>DS.length - i) 0 (Nat.zero_le _) ?_
  intro i hi
  refine gi ?_ ?_ <;> intro br
  ·have jQ:i<DS.length:=oZ
   obtain ⟨d,hd1⟩:=eC jQ
   have hdm:=mem_of_getElem? hd1
   have ny:=zt d hdm
   have zf:=hDs d hdm
   have e1:=fG zf.1
   have e2:=fG zf.2
   obtain ⟨x,x8⟩:=eC (l:=xs) (i:=i) oZ
   have hqi:(qs.map ptr)[i]? = some (ptr x.q):=by rw [<-hx];simp [x8]
   obtain ⟨_,hde⟩:=List.getElem?_eq_some_iff.1 hd1
   obtain ⟨uw,x6⟩:=List.getElem?_eq_some_iff.1 x8
   have JF:∀(A:List Dk) (d':Dk),A.length=i->mW p xs (A++d' :: DS.drop (i+1))=mW p (xs.take i) A++PF p x.q x.g1 x.g2 d' (mW p (xs.drop (i+1)) (DS.drop (i+1))):=fun A d' hA=>by
    conv=>lhs;rw [show xs=xs.take i++x :: xs.drop (i+1) by rw [<-x6,<-drop_eq_getElem_cons,take_append_drop]]
    rw [qN p _ _ (by simp;omega)];rfl
   have h1:(DS.take i).map Dk.back++DS.drop i=(DS.take i).map Dk.back++d :: DS.drop (i+1):=by rw [<-hde,<-drop_eq_getElem_cons]
   have h2:(DS.take (i+1)).map Dk.back++DS.drop (i+1)=(DS.take i).map Dk.back++d.back :: DS.drop (i+1):=by rw [take_succ_eq_append_getElem jQ,map_append,hde];simp
   have hR:Rd [(x.g1,bO d.bP)] 1 (.slice (some ⟨x.g1,0,none⟩) (d.now.length*128) (d.now.length*128)) (d.now.length*128) (au d.bP.flatten):=ay (by rw [aq,e1];omega) (aP _) oZ _
   have Ek:(au d.now.flatten).take 0++(au d.bP.flatten).take (min (d.now.length*128) (d.now.length*128))++(au d.now.flatten).drop (0+min (d.now.length*128) (d.now.length*128))=au d.bP.flatten:=by
    rw [Ha (by rw [aq,e2]) (Nat.le_refl _),take_of_length_le (by rw [aq,e1];omega)]
   rw [h1,JF _ d (by simp;omega)]
   obtain ⟨g,off,rfl⟩:=hdR.addr oZ
   refine gs ?_
   refine gy ?_
   refine gn ?_
   refine ⟨i+1,by omega,by omega,ar, ?_⟩
   have hdb:PF p x.q x.g1 x.g2 d.back (mW p (xs.drop (i+1)) (DS.drop (i+1)))=[(x.q,dkO p x.g1 x.g2 d.now.length d.dead)]++([(x.g1,bO d.bP)]++([(x.g2,bO d.bP)]++mW p (xs.drop (i+1)) (DS.drop (i+1)))):=by rw [<-ny.1];rfl
   rw [h2,JF _ d.back (by simp;omega),hdb]
   exact ⟨_,aa⟩
  ·obtain rfl:i=DS.length:=oZ
   rw [take_length,drop_length,append_nil]
   refine gz ?_
   exact fin ⟨[(p,Lp (.slice none 0 0) none false z (.slice bz qs.length c'))]++([]++(Cd++mW p xs (DS.map Dk.back))),⟨xs,.slice none 0 0,_,[],Cd,z,hx,hn,by rw [hl,adJ];simp [Rk.up,uR],aO.up stay,(fun n hn=>by cases hn),aC.nil _ _,hd,by rw [RI];rfl⟩,rfl⟩ aa
end Go.Proofs.YtpabnmeponmonaaGreatDoor
namespace Go.Sl
theorem dE.ds {qs:List Nat}{R S:Rk}{n:Nat}{ls:List (Option Lv)}(h:dE qs S n ls)(hd:R.ds=S.ds):dE qs R n ls:=fun x hx=>by
 obtain ⟨h1,h2,h3⟩:=h x hx
 exact ⟨h1,(uO hd _).2 h2,by rw [uN hd];exact h3⟩
def SK (pr:Bool)(ls:List (Option Lv))(n ae nt:Nat)(all:List (Int×Ob))(od:List (Int×List Pt))(P:PS)(v:Value)(R':Rk):Prop :=
  (v = .int .i64 5/\∃l,fY pr ls n P.x.D l/\R'=P.R.run l) \/
  ∃ks os ds P2 mo fs,J5 pr ls n ae all od P ks os ds P2 mo fs/\P2.R.off=false /\
    ((v = .int .i64 5/\R'=(P2.R.run (de ls)).run (eA n ls ⟨11,ae+1,nt,mo.root⟩)) \/
     (v = .int .i64 0/\((P2.R.run (de ls)).run (eA n ls ⟨11,ae+1,nt,mo.root⟩)).off=false/\R'=((P2.R.run (de ls)).run (eA n ls ⟨11,ae+1,nt,mo.root⟩)).run (de ls)))
theorem WY {tp:Tp}{pr:Bool}{n q:Nat}{S R:Rk}{no:Nat}{u:Ub}{all:List (Int×Ob)}{od:List (Int×List Pt)}{x:Rm}{lM lD:List aw}{GM SD:List UInt8}{pm:List dg}{cs:List (Int×Ob)}{mo:Ob}{ring:Nat->Option Ub}{ls:List (Option Lv)}
  (hI:pB ls) (hn:324<=n/\n<=2048) (hw:1<=ls.length/\ls.length<=5) (hp:pr=true->3<=ls.length) (h:rJ tp pr n ls.length q S no u all od x lM lD GM SD pm cs mo ring) (hS:Still ls.length S) (hd:R.ds=S.ds) (sM:R.ws=S.ws) (ho:R.off=false)
  (ht:u.ae+1<=281474976710656) {nt:Nat} (rV:nt<18446744073709551616) {v:Value} {R':Rk} (hc:SK pr ls n u.ae nt all od ⟨R,x,[]⟩ v R') (hR:R'.Ok) (ny:S.ds.length=ls.length) (st:List Bool) :
  (v = .int .i64 5/\∃rx gY,FY tp pr n ls.length q (R'.up st) no u lD GM pm cs mo rx gY) \/
  ((v = .int .i64 0\/v = .int .i64 5)/\∃u' fD os kQ rx gY,u'.ae=u.ae+1/\u'.note=nt/\FY tp pr n ls.length q (R'.up st) no u' (lM.map (jC (u.ae+1))) GM fD os kQ rx gY):=by
 rcases hc with ⟨rfl,l,h1,rfl⟩ | ⟨ks,os,ds,P2,kQ,fs,h1,h2,⟨rfl,rfl⟩ | ⟨rfl,h3,rfl⟩⟩
 ·exact .inl ⟨rfl,_,_,(h.af6 hI hn hw hp hS hd sM ho h1 hR st).x hw.1⟩
 ·rcases h.adu hI hn hw hp hS hd sM ho ht rV h1 h2 hR ny st with k | ⟨fD,rx,gY,k⟩
  ·exact .inl ⟨rfl,_,_,k.x hw.1⟩
  ·exact .inr ⟨.inr rfl,_,fD,os,kQ,rx,gY,rfl,rfl,k⟩
 ·obtain ⟨fD,gY,k⟩:=h.done hI hn hw hp hS hd sM ho ht rV h1 h3 hR ny st
  exact .inr ⟨.inl rfl,_,fD,os,kQ,_,gY,rfl,rfl,k.x hw.1⟩
end Go.Sl
namespace Go.Proofs.YtpabnmeponmonaaGreatDoor
section
variable {T:TypeId}{fr:Nat×Nat}{p:Nat}{qs:List Nat}{tp:Tp}{pr:Bool}{n q:Nat}{ls:List (Option Lv)}{s:Nat}{R:Rk}{no ae note:Nat}{all:List (Int×Ob)}{od:List (Int×List Pt)}{rm:Rm}{S:Chunk}{pm:List dg}{l:List aw}
theorem abd (h:xJ T fr p qs tp pr n ls s R no ae note all od rm S)(x:Int)(hx : -9223372036854775808<=x/\x<=9223372036854775807):Ct 7 [ptr p,.int .i64 x] [S] fun _ Bs=>∃S',xJ T fr p qs tp pr n ls s { R with left:=yN x } no ae note all od rm S'/\Bs=[S']:=by
 obtain ⟨t,al,ra,rd,C,V,LA,CA,VA,Ld,CD,VD,Al,hV,hC,hA,hG,hD,hP,hL,rfl⟩:=h
 refine (abc p qs R C hC x hx).on (Rs:=[(s,bU t (ptr al) ra rd ae note)]++(gK T fr++(V++(CA++(VA++(CD++(VD++Al))))))) bW ?_
 rintro u Bs ⟨C',h1,rfl⟩
 exact ⟨_,[],⟨_,⟨t,al,ra,rd,C',V,LA,CA,VA,Ld,CD,VD,Al,hV,h1,hA,hG,hD,hP,hL,rfl⟩,rfl⟩,bW⟩
theorem IF {R0:Rk}(h:xJ T fr p qs tp pr n ls s R no ae note all od rm S)(f:StF qs tp pr n q ls R0 pm all l)(zf:R.ds=R0.ds)(jx:R.off=false)(ha:NS (bD pr ls.length n) (aL pr ls.length 1024) q ae rm pm)(nC:dv pr ls.length n R0 pm)(NP:∀x,x∈aY od↔∃e∈pm,e.x=x)(Hy:∀e∈od,e.2.length<=200)(mU:pm.length<=q)(hu:aT l+10<=q)(ht:ae+1<=281474976710656)(hw:R.ws.length<=800000000000)(nt:Nat)(rV:nt<18446744073709551616) :
  Ct 8 [ptr s,.int .u64 nt] [S] fun v Bs=>∃R' a C',SK pr ls n ae nt all od ⟨R,rm,[]⟩ v R'/\R'.ws.length<=900000000000/\bj p qs R' C'/\Bs=[a,gK T fr,C']:=by
 obtain ⟨t,al,ra,rd,C,V,LA,CA,VA,Ld,CD,VD,Al,hV,hC,hA,hG,hD,hP,hL,rfl⟩:=h
 have hz:=ir pr f.ok.hw ⟨f.ok.hn.1,f.n2⟩
 have h4q:4*q<=bD pr ls.length n / aL pr ls.length 1024:=by have:=f.q;omega
 have QB:bD pr ls.length n / aL pr ls.length 1024<=10240:=Nat.le_trans (Nat.div_le_self _ _) hz.2
 have hn:=zL f.rel
 rw [hG.keys] at hn
 have ny:=ha.dl
 have hps:uT qs pr ls n ⟨R,rm,[]⟩ (10+mG all (LA.map (·.1))):=⟨jx,f.ho.ds zf,sOZ,sOZ,by simp only [length_nil];omega⟩
 have Tl:rA (aL pr ls.length 1024) rm od:=by
  have mI:=Iq (od:=od) nC fun x hx=>(NP x).1 hx
  have he:∀x∈aY od,aM (aL pr ls.length 1024) x∈rm.D/\aM (aL pr ls.length 1024) x∉rm.W:=fun x hx=>by
   obtain ⟨e,h1,rfl⟩:=(NP x).1 hx
   exact ha.hd e h1
  exact ⟨mI.top,mI.at_,fun x hx=>(he x hx).1,fun x hx=>(he x hx).2,mI.inj⟩
 have c:=FX T fr p qs t 11 tp pr n ls no V hV f.ok f.n2 f.hall s al ra rd ae note ⟨R,rm,[]⟩ rfl LA all CA VA hA hG (fun e he=>⟨(f.rel.each e he).1,(f.rel.each e he).2.1⟩) (fun e he=>by
  obtain ⟨-, -,h3,h4,h5⟩:=f.rel.each e he
  rw [R6]
  exact ⟨h3.V8 nC,h4,h5⟩) Ld od CD VD hD hP Hy (aL pr ls.length 1024) rfl Tl ha.ok nt dZ rV ht hps C Al hC hL
 refine (M5 s nt t (ptr al) ra rd ae note _ _ _ _ _ _ _ _ _ (fun Bs hB => ?_) _ (fun Bs hB => ?_) c).on (Rs:=[]) bW ?_
 ·rcases hB with ⟨lF,CF, -, -, -,rfl⟩ | ⟨ks,os,ds,P2,mo,fs,C', -, -, -, -,rfl⟩ <;> exact ⟨_,_,rfl⟩
 ·obtain ⟨ks,os,ds,P2,mo,fs, -, -,r6,r7,LO,LP,C6,VO,C7,VP,C',jO, -, -, -, -, -, -, -,rfl⟩:=hB
  exact ⟨_,_,_,_,_,_,_,_,_,rfl⟩
 ·rintro u Bs (⟨rfl,a,b,c,hB,rfl⟩ | ⟨rfl,ks,os,ds,P2,mo,fs,h0,h1,r6,r7,LO,LP,C6,VO,C7,VP,C',jO,k1,k2,k3,k4,k5,k6,k7,rfl⟩)
  ·rcases hB with ⟨lF,CF,f1,f2,f3,e⟩ | ⟨ks,os,ds,P2,mo,fs,C',f1,f2,f3,f4,e⟩
   ·simp only [List.cons.injEq,and_true] at e
    obtain ⟨-,rfl,rfl⟩:=e
    exact ⟨[a,gK T fr,c],[],⟨_,a,c,.inl ⟨rfl,lF,f1,rfl⟩,f2.2,f3,rfl⟩,bW⟩
   ·simp only [List.cons.injEq,and_true] at e
    obtain ⟨-,rfl,rfl⟩:=e
    exact ⟨[a,gK T fr,c],[],⟨_,a,c,.inr ⟨ks,os,ds,P2,mo,fs,f1,f2,.inl ⟨rfl,rfl⟩⟩,f3.2,f4,rfl⟩,bW⟩
  ·exact ⟨[[(s,bU t (ptr al) r6 r7 (ae+1) nt)],gK T fr,C'],V++(C6++(VO++(C7++(VP++jO)))),⟨_,_,C',.inr ⟨ks,os,ds,P2,mo,fs,h1,k5.off,.inr ⟨rfl,h0,rfl⟩⟩,by
    have h1:=Rk.eS P2.R (de ls)
    have h2:=Rk.eS (P2.R.run (de ls)) (eA n ls ⟨11,ae+1,nt,mo.root⟩)
    have h3:=Rk.eS ((P2.R.run (de ls)).run (eA n ls ⟨11,ae+1,nt,mo.root⟩)) (de ls)
    have h4:=Kk (n:=n) (u:=⟨11,ae+1,nt,mo.root⟩) f.ok.hw.2
    have h5:=J4 (ls:=ls) f.ok.hw.2
    have h6:=k5.ws
    omega,k6,rfl⟩,bW⟩
end
def age (T:TypeId)(fr:Nat×Nat)(p:Nat)(qs:List Nat)(tp:Tp)(pr:Bool)(n q w:Nat)(u:Ub)(l:List aw)(G:List UInt8)(no0 s:Nat)(b0 b1 b2 b3 b4 b5 b6 b7:Chunk):Prop :=
 ∃ls R no all od rm pm cs mo ring,j0 qs ls/\ls.length=w/\rJ tp pr n ls.length q R no u all od rm l l G G pm cs mo ring/\xJ T fr p qs tp pr n ls s R no u.ae u.note all od rm (b0++(gK T fr++(b1++(b2++(b3++(b4++(b5++(b6++b7))))))))/\(1<=no/\no<=no0+22528)/\Still w R
section
variable {T:TypeId}{fr:Nat×Nat}{p:Nat}{qs:List Nat}{tp:Tp}{pr:Bool}{n q w:Nat}(cg:Cg tp pr n q w)(yc:qs.length=w){R:Rk}{no:Nat}{u:Ub}{l:List aw}{G:List UInt8}{pm:List dg}{cs:List (Int×Ob)}{mo:Ob}{rx:Nat->Nat->Nat->Option Ub}{ring:Nat->Option Ub}{C:Chunk}
 (hD:FY tp pr n w q R no u l G pm cs mo rx ring) (hC:bj p qs R C)
include cg yc hD hC
theorem Nf (Q:Chunk)(j7:Option Addr)(cq:Nat)(hQ:Rd Q 1 (.slice j7 w cq) w (qs.map ptr)):Ct 26 [.slice j7 w cq] [gK T fr,C,Q] fun v Bs=>∃t V,v = .tuple #[ptr t,.int .i64 0]/\(∃ls,j0 qs ls/\ls.length=w/\iZ t 11 tp pr n ls (rX R ls 1 w) V)/\Bs=[V,gK T fr,C,Q]:=by
 obtain ⟨U,hU1,Hk⟩:=hD.fw
 refine (Md T fr p qs 11 tp pr n w cg.ok yc R C hC hD.qt.on.2 hD.qt.sz (fun k hk=>Sf cg.nJ (by rw [<-cg.hw];exact hk)) hD.qt.lb Q j7 cq hQ rx hD.qt.rg U hU1 Hk (fun i hi _=>hD.ow i hi)).to ?_
 rintro v Bs ⟨t,V,ls,h1,h2,h3,h4,h5⟩
 exact ⟨t,V,h1,⟨ls,h3,h2,h4⟩,h5⟩
theorem WZ (gf:1<=no/\no+22528<=281474976710656)(sM:R.ws.length<=700000000000)(t:Nat)(V:Chunk)(hV:∃ls,j0 qs ls/\ls.length=w/\iZ t 11 tp pr n ls (rX R ls 1 w) V) :
  Ct 27 [ptr t] [gK T fr,C,V] fun v Bs=>∃s b0 b1 b2 b3 b4 b5 b6 b7,v = .tuple #[ptr s,.int .i64 0]/\age T fr p qs tp pr n q w u l G no s b0 b1 b2 b3 b4 b5 b6 b7/\Bs=[b0,gK T fr,b1,b2,b3,b4,b5,b6,b7]:=by
 obtain ⟨ls,tL,rfl,hV⟩:=hV
 obtain ⟨U,hU1,Hk⟩:=hD.fw
 have hn:324<=n/\n<=2048:=⟨cg.ok.hn.1,cg.n2⟩
 have hw:=cg.ok.hw
 obtain ⟨k1,k2,k3,k4,k5,k6,k7,k8⟩:=hD.opens tL.i hn hw cg.ok.hp gf _ rfl
 have r1:=k2.root
 have r2:=k2.NN
 have r3:=k2.KR
 have r4:=k2.op
 have one:=hD.rg.one
 rw [<-hD.rt] at r1 r2 r3 r4 k8
 refine (VW T fr p qs t 11 tp pr n ls (rX R ls 1 ls.length) V hV cg.ok cg.n2 R C hC (tL.ok hD.qt.sz) tL.all hD.qt.on rx (fun i x hx=>by
   obtain ⟨e,hi⟩:=tL.i.at hx
   rw [e];exact hD.qt.rg i hi) U hU1 Hk u (fun x hx=>hD.bs x hx) oZ (fE pm) r1 (ke pm) r2 (slotsOf cs) (ej cs) k2.so r3 k2.ob (aL pr ls.length 1024) rfl r4 hD.ub.1 hD.ub.2 hD.rg.pl ⟨k1.1,by omega⟩ oZ (aaX hC.ok ls) k3 (tL.ok fun k hk=>⟨(k4 k).2.2 (hD.qt.sz k hk).1,by rw [(k4 k).1];exact (hD.qt.sz k hk).2⟩) oZ).to ?_
 rintro v Bs ⟨s,al,ra,rd,ks,rfl,h1,h2,C',V',LA,CA,VA,Ld,CD,VD,Al,a1,a2,a3,a4,a5,a6,a7,rfl⟩
 have Ji:(NO n ls (rX R ls 1 ls.length) u R).ws=[]:=xI tL.i a1.ok (a1.len.symm.trans yc) (k3.run _).2
 exact ⟨s,_,C',V',CA,VA,CD,VD,Al,rfl,⟨ls,_,_,_,_,⟨ks,[]⟩,pm,_,_,ring,tL,rfl,k8 ks h1 h2,⟨t,al,ra,rd,C',V',LA,CA,VA,Ld,CD,VD,Al,a2,a1,a3,a4,a5,a6,a7,rfl⟩,⟨by omega,by omega⟩,⟨Ji,fun i a hi=>by unfold NO;rw [p3 tL.i (k3.run _) hi,fc tL.i]⟩⟩,rfl⟩
theorem W3 (gf:1<=no/\no+22528<=281474976710656)(sM:R.ws.length<=700000000000)(Q:Chunk)(j7:Option Addr)(cq:Nat)(hQ:Rd Q 1 (.slice j7 w cq) w (qs.map ptr)) :
  Ct 11 [.slice j7 w cq] [gK T fr,C,Q] fun v Bs=>∃s S',v = .tuple #[ptr s,.bool true]/\(∃ls R' SN all od rm fD Xm kQ gY,j0 qs ls/\ls.length=w/\rJ tp pr n ls.length q R' SN u all od rm l l G G fD Xm kQ gY/\xJ T fr p qs tp pr n ls s R' SN u.ae u.note all od rm S'/\(1<=SN/\SN<=no+22528)/\Still w R')/\Bs=[S',Q]:=by
 refine (WW j7 w cq (gK T fr) C Q _ (Nf cg yc hD hC Q j7 cq hQ) _ fun t V hV=>WZ cg yc hD hC gf sM t V hV).on (Rs:=[]) bW ?_
 rintro v Bs ⟨s,b0,b1,b2,b3,b4,b5,b6,b7,rfl,⟨ls,R',SN,all,od,rm,fD,Xm,kQ,gY,e1,e2,e3,e4,e5,e6⟩,rfl⟩
 exact ⟨_,[],⟨s,_,rfl,⟨ls,R',SN,all,od,rm,fD,Xm,kQ,gY,e1,e2,e3,e4,e5,e6⟩,rfl⟩,bW⟩
end
section
variable {T:TypeId}{fr:Nat×Nat}{p:Nat}{qs:List Nat}{tp:Tp}{pr:Bool}{n q w:Nat}(cg:Cg tp pr n q w){ls:List (Option Lv)}{s:Nat}{R:Rk}{no:Nat}{u:Ub}{all:List (Int×Ob)}{od:List (Int×List Pt)}{rm:Rm}{S M:Chunk}{pm:List dg}{lM lD:List aw}{GM SD:List UInt8}{cs:List (Int×Ob)}{mo:Ob}{ring:Nat->Option Ub}(tL:j0 qs ls)(gH:ls.length=w)
 (h:xJ T fr p qs tp pr n ls s R no u.ae u.note all od rm S) (pl:rJ tp pr n ls.length q R no u all od rm lM lD GM SD pm cs mo ring) {a room:Nat} {G Z:List UInt8}
include cg tL gH h pl
theorem SO (hm:yJ a lM u.ae u.note room G Z M):Ct 12 [ptr s,ptr a] [S,M] fun v Bs=>v = .bool true/\Bs=[S,M]:=by
 subst gH
 have f:StF qs tp pr n q ls R pm all lM:=⟨cg.ok,cg.n2,tL.ok pl.dk.qt.sz,tL.all,pl.dk.qt.on,pl.rel,fun o N ho=>Ir tL.i cg.ok.hn.1 cg.ok.hw cg.ok.hp (fun i hi=>(pl.dk.qt.sz i hi).2) pl.dk.po ho,cg.qe⟩
 have jD:=pl.rel
 obtain ⟨t,al,ra,rd,C,V,LA,CA,VA,Ld,CD,VD,Al,hV,hC,hA,hG,hD,hP,hL,rfl⟩:=h
 obtain ⟨ad,c,D,O,fg,cG,DG,dy,cS,DS,h1,h2,h3,h4,h5,rfl⟩:=hm
 have he:all.map (·.1)=LA.map (·.1):=hG.keys
 have gH:LA.length=lM.length:=by
  have h:=congrArg List.length he
  rw [length_map,length_map] at h
  exact h.symm.trans jD.len
 refine (Q9 T fr p qs t 11 tp pr n ls no V hV f.ok R C hC f.ho f.hall f.on.2 s (ptr al) ra rd u.ae u.note LA CA hA all VA hG a lM jD.dl room (.slice fg 22528 cG) (.slice dy 22528 cS) ad c D O h1.1 h3 gH (fun ks k1 k2=>jD.ks (by rw [he];exact k1) k2) (ke pm) (fun d hd => ?_)).dr (CD++(VD++(Al++(DG++DS)))) bW ⟨rfl,rfl⟩
 have hk:=pY jD.ord hd
 rcases jD.keys d.no with ⟨-,c⟩ | ⟨o,d',c1,c2,hi,hr⟩
 ·rw [hk] at c;cases c
 ·rw [hk] at c2;cases c2
  exact ⟨(jD.no d hd).1,o,c1,hr.size,hr.mO,f.NN _ _ hi,fun e he=>(hi.fk e he).2.2⟩
omit cg tL gH in
theorem F0 {l:List aw}(aO:kN l){abe ba:Nat}(ey:u.ae≠abe)(hm:yJ a l abe ba room G Z M):Ct 12 [ptr s,ptr a] [S,M] fun v Bs=>v = .bool false/\Bs=[S,M]:=by
 have jD:=pl.rel
 have mM:=jD.dl.jd
 obtain ⟨t,al,ra,rd,C,V,LA,CA,VA,Ld,CD,VD,Al,hV,hC,hA,hG,hD,hP,hL,rfl⟩:=h
 obtain ⟨ad,c,D,O,fg,cG,DG,dy,cS,DS,h1,h2,h3,h4,h5,rfl⟩:=hm
 have he:all.map (·.1)=LA.map (·.1):=hG.keys
 have gH:LA.length=lM.length:=by
  have h:=congrArg List.length he
  rw [length_map,length_map] at h
  exact h.symm.trans jD.len
 exact (WV a l aO abe ba room (.slice fg 22528 cG) (.slice dy 22528 cS) ad c D h1.1 s t (ptr al) ra rd u.ae u.note LA CA hA oZ ey).dr (gK T fr++(C++(V++(VA++(CD++(VD++(Al++(O++(DG++DS))))))))) bW ⟨rfl,rfl⟩
end
section
variable {T:TypeId}{fr:Nat×Nat}{tp:Tp}{pr:Bool}{n q w i:Nat}(cg:Cg tp pr n q w){r:Rg}{X:Chunk}(h:Inv T fr tp pr n q w i r X)
include cg h
theorem abf:Ct 12 [ptr r.s,ptr r.a] [X] fun v Bs=>v = .bool true/\Bs=[X]:=by
 obtain ⟨qs,ls,R,no,u,all,od,rm,lM,lD,GM,SM,GD,SD,pm,cs,mo,ring,S,M,Dn,Q,h,rfl⟩:=h
 have f:=h.f cg
 have jD:=h.jm.rel
 obtain ⟨t,al,ra,rd,C,V,LA,CA,VA,Ld,CD,VD,Al,hV,hC,hA,hG,hD,hP,hL,rfl⟩:=h.st
 obtain ⟨ad,c,D,O,fg,cG,DG,dy,cS,DS,h1,h2,h3,h4,h5,rfl⟩:=h.dm
 have he:all.map (·.1)=LA.map (·.1):=hG.keys
 have gH:LA.length=lM.length:=by
  have h:=congrArg List.length he
  rw [length_map,length_map] at h
  exact h.symm.trans jD.len
 refine (Q9 T fr r.p qs t 11 tp pr n ls no V hV f.ok R C hC f.ho f.hall f.on.2 r.s (ptr al) ra rd u.ae u.note LA CA hA all VA hG r.a lM jD.dl (q - 10) (.slice fg 22528 cG) (.slice dy 22528 cS) ad c D O h1.1 h3 gH (fun ks k1 k2=>jD.ks (by rw [he];exact k1) k2) (ke pm) (fun d hd => ?_)).dr (CD++(VD++(Al++(DG++(DS++(Dn++Q)))))) bW ⟨rfl,rfl⟩
 have hk:=pY jD.ord hd
 rcases jD.keys d.no with ⟨-,c⟩ | ⟨o,d',c1,c2,hi,hr⟩
 ·rw [hk] at c;cases c
 ·rw [hk] at c2;cases c2
  exact ⟨(jD.no d hd).1,o,c1,hr.size,hr.mO,f.NN _ _ hi,fun e he=>(hi.fk e he).2.2⟩
end
end Go.Proofs.YtpabnmeponmonaaGreatDoor
namespace Go.Sl
structure xP where
 sc:Value
 ops:List ry
 nt:Nat
 af:Int
 sv:Value
 st:List Bool
def xP.lay (f:xP):List Value:=[f.sc,.int .u64 f.nt,.int .i64 f.af,f.sv]
theorem xP.ak (f:xP):(xP.lay f).length=4:=rfl
def rM (l:List xP):Nat:=(l.map fun f=>f.ops.length+1).sum
theorem kN.cm {l:List aw}(aO:kN l)(t:Nat):kN (l.map (jC t)):=⟨by rw [length_map];exact aO.jd,fun o ho=>by
  obtain ⟨o',h1,rfl⟩:=mem_map.1 ho
  rw [show (jC t o').b=o'.b from (cA _ o' 64).2.1];exact aO.sm o' h1,fun o ho=>by
  obtain ⟨o',h1,rfl⟩:=mem_map.1 ho
  rw [show (jC t o').no=o'.no from (cA _ o' 64).1];exact aO.no o' h1⟩
theorem Ng {l:List xP}{i:Nat}(h:i<l.length):rM (l.take (i+1))=rM (l.take i)+(l[i].ops.length+1):=by
 unfold rM
 rw [take_succ_eq_append_getElem h,map_append,sum_append];simp
theorem W4 (l:List xP)(i:Nat):rM (l.take i)<=rM l:=by
 unfold rM
 conv=>rhs;rw [<-take_append_drop i l,map_append,sum_append]
 omega
end Go.Sl
namespace Go.Proofs.YtpabnmeponmonaaGreatDoor
structure Yp (A:Chunk)(f:xP):Prop where
 sc:∃ad c,f.sc = .slice ad f.ops.length c/\Rd A 7 (.slice ad f.ops.length c) f.ops.length (f.ops.flatMap ry.lay)
 ol:f.ops.length<=1048576
 ok:∀o∈f.ops,aaZ A o
 nt:f.nt<18446744073709551616
 af : -9223372036854775808<=f.af/\f.af<=9223372036854775807
 sv:∃ad c,f.sv = .slice ad f.st.length c/\Rd A 1 (.slice ad f.st.length c) f.st.length (f.st.map .bool)
section
variable {g:FuncId}{args:List Value}{S X F:Chunk}{P:Value->Chunk->Prop}
theorem Ct.fr (c:Ct g args [S] fun u Bs=>∃S',P u S'/\Bs=[S'])(J:Chunk->Chunk)(F:Chunk)(h1:X.Perm (S++F))(h2:∀S',(S'++F).Perm (J S')):Ct g args [X] fun u Bs=>∃S' X',P u S'/\X'=J S'/\Bs=[X']:=by
 refine c.on (Rs:=F) (by simpa using h1) ?_
 rintro u Bs ⟨S',h,rfl⟩
 exact ⟨[J S'],[],⟨S',_,h,rfl,rfl⟩,by simpa using h2 S'⟩
end
theorem IG (tp:Tp)(v:Value)(h:¬tp.nJ):Ct 3 [tp.agg,v] [] fun u Bs=>u = .bool true/\Bs=[]:=by
 refine st func3 fun w0 => ?_
 refine ga ?_;intro b3
 refine gc (JU tp) ?_
 rintro _ _ ⟨rfl,rfl⟩
 refine gz ?_
 exact fin ⟨rfl,rfl⟩ aa
section
variable {T:TypeId}{fr:Nat×Nat}{tp:Tp}{pr:Bool}{n q w:Nat}(nJ:tp.nJ)(cg:10<=q->Cg tp pr n q w)
 (hb:∀O ad c,aC O 23 3 (.slice ad 1 c) 1 tp.lay->Ct 5 [.slice ad 1 c] [gK T fr,O] fun u Bs=>(∃x,u = .tuple #[x,.bool false,.bool true])/\Bs=[gK T fr,O]\/10<=q/\∃rg r X,u = .tuple #[ptr rg,.bool true,.bool true]/\kO T fr tp pr n q w 0 r X/\Bs=[Rg.ch rg r,X])
include nJ cg hb
theorem Nh (A:Chunk)(fs:List xP)(N:Nat)(hN:fs.length=N)(hf:rM fs<=1048576)(aO:∀f∈fs,Yp A f)(tX:Option Addr)(cF:Nat)(hF:Rd A 4 (.slice tX N cF) N (fs.flatMap xP.lay)) :
  Ct 3 [tp.agg,.slice tX N cF] [gK T fr,A] fun u Bs=>u = .bool true/\(Bs=[gK T fr,A]\/∃b r X,kO T fr tp pr n q w b r X/\Bs=[X,A]):=by
 have hNb:N<=1048576:=by
  have:fs.length<=rM fs:=by
   unfold rM
   clear hf aO hF hN
   induction fs with
   | nil=>exact Nat.zero_le _
   | cons f l ih=>rw [map_cons,sum_cons,length_cons];omega
  omega
 refine st func3 fun w0 => ?_
 refine ga ?_;intro b3
 refine gc (JU tp) ?_
 rintro _ _ ⟨rfl,rfl⟩
 refine go ?_
 rw [decide_eq_true nJ]
 refine gm ?_;intro b23
 have hO:aC [(b23,ax tp.lay 23)] 23 3 (.slice (some ⟨b23,0,none⟩) 1 1) 1 tp.lay:=⟨rfl,tp.bK,.inr ⟨b23,1,[],rfl,by rw [append_nil],Nat.le_refl _,by decide,rfl⟩⟩
 refine gc (hb _ _ _ hO) ?_
 rintro _ _ (⟨⟨x,rfl⟩,rfl⟩ | ⟨Yg,rg,r,X,rfl,hX,rfl⟩)
 ·refine gz ?_
  exact fin ⟨rfl,.inl rfl⟩ aa
 ·have cg:=cg Yg
  refine gl [1,6] (fun ((i,_):Nat×Nat×Rg×Chunk)=>[(9,.int .i64 i)]) (fun (_,_,r,X)=>[Rg.ch rg r,X]) (fun (i,b,r,X)=>i<=N/\b<=rM (fs.take i)/\kO T fr tp pr n q w b r X) (fun (i,_)=>N - i) (0,0,r,X) ⟨Nat.zero_le _,Nat.zero_le _,hX⟩ ?_
  clear hX
  rintro ⟨i,b,r,X⟩ ⟨hi,HM,hX⟩
  refine gi ?_ ?_ <;> intro br
  ·have bh:i<fs.length:=oZ
   have adM:=Ng bh
   have hle:=W4 fs (i+1)
   have hs:=av xP.ak fs i fs[i] (by simp)
   have tW:=aO fs[i] (getElem_mem bh)
   obtain ⟨f,hfd⟩:∃f,f=fs[i]:=⟨_,rfl⟩
   rw [<-hfd] at hs adM tW
   obtain ⟨⟨dy,cS,I2,hSR⟩,Hy,Vw,rV,haf,adV,cV,Gg,hVR⟩:=tW
   have vg:=hs 0 (.slice dy f.ops.length cS) (by rw [<-I2];rfl)
   have vV:=hs 1 (.int .u64 f.nt) rfl
   have lV:=hs 2 (.int .i64 f.af) rfl
   have U3:=hs 3 (.slice adV f.st.length cV) (by rw [<-Gg];rfl)
   clear hs
   have LX:=hF
   obtain ⟨gF,oF,rfl⟩:=LX.addr oZ
   refine gl [1,6,9] (fun ((k,_):Nat×Nat×Rg×Chunk)=>[(10,.int .i64 k)]) (fun (_,_,r,X)=>[Rg.ch rg r,X]) (fun (k,b,r,X)=>k<=f.ops.length/\b<=rM (fs.take i)+k/\kO T fr tp pr n q w b r X) (fun (k,_)=>f.ops.length - k) (0,b,r,X) ⟨Nat.zero_le _,by omega,hX⟩ ?_
   clear hX HM
   rintro ⟨k,b,r,X⟩ ⟨hk,uq,hX⟩
   refine gi ?_ ?_ <;> intro qI
   ·have kI:k<f.ops.length:=oZ
    have hSr:=hSR
    obtain ⟨gS,oS,rfl⟩:=hSr.addr oZ
    have hso:=av ry.ak f.ops k f.ops[k] (by simp)
    have ahj:=hso 0 (.int .i64 f.ops[k].o) rfl
    refine gi ?_ ?_ <;> intro h8
    ·refine gn ?_
     exact ⟨(k+1,b,r,X),⟨by omega,by omega,hX⟩,sOZ,ar,_,aa⟩
    ·refine gc (SH cg oZ hX rg f.ops[k] (Vw _ (getElem_mem kI)) oZ) ?_
     rintro _ _ ⟨rfl,r',X',hX',rfl⟩
     refine gn ?_
     exact ⟨(k+1,b+1,r',X'),⟨by omega,by omega,hX'⟩,sOZ,ar,_,aa⟩
   ·obtain rfl:k=f.ops.length:=oZ
    obtain ⟨qs,ls,R,no,u,all,od,rm,lM,lD,G,pm,cs,mo,ring,S,M,Dn,Q,h,bB,hX0⟩:=hX
    obtain ⟨hn,hw,hp⟩:=h.lw cg
    obtain ⟨j7,cq,hv,hQ⟩:=h.vq
    have sM:=h.ws
    have gf:=h.no
    have xU:=h.tx
    have gH:=h.ll
    have yc:=h.ql
    have hf0:=h.f cg
    have adQ:=h.jm.rel.dl
    have hrk:=h.st.rk
    obtain ⟨p,vQ,s,a,d⟩:=r
    simp only at hv
    subst hv
    have c1:=Ct.fr (abd h.st f.af haf) (fun S'=>S'++(M++(Dn++Q))) (M++(Dn++Q)) (X:=X) (by rw [hX0]) fun S'=>List.Perm.refl _
    refine gc c1 ?_
    rintro _ _ ⟨S1,X1,hS1,hX1,rfl⟩
    have c2:Ct 8 [ptr s,.int .u64 f.nt] [X1] fun v Bs=>∃R' a' C' X2,SK pr ls n u.ae f.nt all od ⟨{ R with left:=yN f.af },rm,[]⟩ v R'/\R'.ws.length<=900000000000/\bj p qs R' C'/\X2=(a'++(gK T fr++C'))++(M++(Dn++Q))/\Bs=[X2]:=by
     rw [hX1]
     refine (IF hS1 hf0 rfl h.jm.dk.qt.on.2 h.jm.al h.jm.dk.po h.jm.oe h.jm.ol h.jm.dk.jd h.jm.um oZ (by rw [show ({ R with left:=yN f.af }:Rk).ws=R.ws from rfl,bB.ws];exact Nat.zero_le _) f.nt rV).on (Rs:=M++(Dn++Q)) bW ?_
     rintro v Bs ⟨R',a',C',k1,k0,k2,rfl⟩
     exact ⟨_,[],⟨R',a',C',_,k1,k0,k2,rfl,rfl⟩,bW⟩
    refine gd [0,4,8,12,16,20,24,28,32,39,42] ?_
    refine gc c2 ?_
    rintro v _ ⟨R',a',C',X2,hco,hRw,bF,hX2,rfl⟩
    have c3:=Ct.fr (P:=fun _ M'=>yJ a (lM.map (jC (u.ae+1))) (u.ae+1) f.nt (q - 10) G G M') (zM h.dm adQ f.nt oZ) (X:=X2) (fun M'=>(a'++(gK T fr++C'))++(M'++(Dn++Q))) ((a'++(gK T fr++C'))++(Dn++Q)) (by rw [hX2];exact bW) fun M'=>bW
    refine gc c3 ?_
    rintro _ _ ⟨M',X3,V4,hX3,rfl⟩
    have ny:R.ds.length=ls.length:=by rw [<-hrk.2,yc,gH]
    have c4:Ct 10 [ptr p,.slice adV f.st.length cV] [X3,A] fun _ Bs=>∃C2 X4,bj p qs (R'.up f.st) C2/\X4=(a'++(gK T fr++C2))++(M'++(Dn++Q))/\Bs=[X4,A]:=by
     rw [hX3]
     refine (adB p qs R' C' bF oZ hRw f.st A adV f.st.length cV rfl hVR).on (Rs:=a'++(gK T fr++(M'++(Dn++Q)))) bW ?_
     rintro u Bs ⟨C2,k1,rfl⟩
     exact ⟨_,[],⟨C2,_,k1,rfl,rfl⟩,bW⟩
    refine gc c4 ?_
    rintro _ _ ⟨C2,X4,yq,hX4,rfl⟩
    have agf:Still ls.length R:=by rw [gH];exact bB
    have adR:=WY h.lo.i hn hw hp h.jm agf (R:={ R with left:=yN f.af }) rfl rfl h.jm.dk.qt.on.2 oZ rV hco bF.ok ny f.st
    rw [gH] at adR
    have agh:=adQ.cm (u.ae+1)
    have SP:∀ {u2:Ub} {l2:List aw} {pm2:List dg} {cs2:List (Int×Ob)} {mo2:Ob} {rx:Nat->Nat->Nat->Option Ub} {F2:Nat->Option Ub},FY tp pr n w q (R'.up f.st) no u2 l2 G pm2 cs2 mo2 rx F2->Ct 11 [.slice j7 w cq] [X4] fun v Bs=>∃s2 S2 X5,v = .tuple #[ptr s2,.bool true]/\(∃ls R' SN all od rm fD Xm kQ gY,j0 qs ls/\ls.length=w/\rJ tp pr n ls.length q R' SN u2 all od rm l2 l2 G G fD Xm kQ gY/\xJ T fr p qs tp pr n ls s2 R' SN u2.ae u2.note all od rm S2/\(1<=SN/\SN<=no+22528)/\Still w R')/\X5=S2++(M'++(Dn++Q))/\Bs=[X5]:=fun hD=>by
     rw [hX4]
     refine (W3 (T:=T) (fr:=fr) cg yc hD yq ⟨gf.1,by omega⟩ (Nat.zero_le _) Q j7 cq hQ).on (Rs:=a'++(M'++Dn)) bW ?_
     rintro v Bs ⟨s2,S2,rfl,k1,rfl⟩
     exact ⟨_,a',⟨s2,S2,_,rfl,k1,rfl,rfl⟩,bW⟩
    clear c1 c2 c3 c4
    rcases adR with ⟨rfl,rx,gY,hD⟩ | ⟨hv5,u',fD,os,kQ,rx,gY,IM,hu2,hD⟩
    ·refine gc (SP hD) ?_
     rintro _ _ ⟨s2,S2,X5,rfl,⟨ls2,R2,no2,abg,od2,rm2,pm2,cs2,mo2,F2,e1,e2,e3,e4,e5,e6⟩,hX5,rfl⟩
     have c6:Ct 12 [ptr s2,ptr a] [X5] fun v Bs=>v = .bool false/\Bs=[X5]:=by
      rw [hX5];exact (F0 e4 e3 agh oZ V4).dr (Dn++Q) bW ⟨rfl,rfl⟩
     have c7:Ct 12 [ptr s2,ptr d] [X5] fun v Bs=>v = .bool true/\Bs=[X5]:=by
      rw [hX5];exact (SO cg e1 e2 e4 e3 h.dd).dr (M'++Q) bW ⟨rfl,rfl⟩
     refine gc c6 ?_
     rintro _ _ ⟨rfl,rfl⟩
     refine gc c7 ?_
     rintro _ _ ⟨rfl,rfl⟩
     have c8:Ct 13 [ptr d] [X5] fun v Bs=>∃d1 l1 D1 X6,v=ptr d1/\l1.map aw.nv=lD.map aw.nv/\yJ d1 l1 u.ae u.note (q - 10) G G D1/\X6=S2++(D1++(Dn++Q))/\Bs=[X6]:=by
      rw [hX5]
      refine (rL h.dd e3.rel.dl).on (Rs:=S2++(M'++Q)) bW ?_
      rintro v Bs ⟨d1,l1,D1,rfl,k1,k2,rfl⟩
      exact ⟨_,M',⟨d1,l1,D1,_,rfl,k1,k2,rfl,rfl⟩,bW⟩
     refine gc c8 ?_
     rintro _ _ ⟨d1,l1,D1,X6,rfl,k1,k2,hX6,rfl⟩
     have e3:=e3.nvD k1
     have c9:Ct 13 [ptr d1] [X6] fun v Bs=>∃d2 l2 D2 X7,v=ptr d2/\l2.map aw.nv=l1.map aw.nv/\yJ d2 l2 u.ae u.note (q - 10) G G D2/\X7=S2++(D2++(D1++Q))/\Bs=[X7]:=by
      rw [hX6]
      refine (rL k2 (e3.nvM k1).rel.dl).on (Rs:=S2++(Dn++Q)) bW ?_
      rintro v Bs ⟨d2,l2,D2,rfl,k3,k4,rfl⟩
      exact ⟨_,Dn,⟨d2,l2,D2,_,rfl,k3,k4,rfl,rfl⟩,bW⟩
     refine gc c9 ?_
     rintro _ _ ⟨a2,l2,D2,X7,rfl,k3,k4,hX7,rfl⟩
     refine gn ?_
     exact ⟨(i+1,b+1,⟨p,.slice j7 w cq,s2,a2,d1⟩,X7),⟨by omega,by omega,⟨qs,ls2,R2,no2,u,abg,od2,rm2,l2,l1,G,pm2,cs2,mo2,F2,S2,D2,D1,Q,⟨⟨j7,cq,rfl,hQ⟩,e1,yc,e2,e3.nvM (k3.trans k1),e4,k4,k2,⟨e5.1,Ke e5.2 gf.2⟩,Nat.le_trans xU (Nat.add_le_add_left (Nat.le_succ b) 1),by rw [e6.ws];exact Nat.zero_le _⟩,e6,hX7⟩⟩,sOZ,ar,_,aa⟩
    ·have V4:yJ a (lM.map (jC (u.ae+1))) u'.ae u'.note (q - 10) G G M':=by rw [IM,hu2];exact V4
     refine gc (SP hD) ?_
     rintro _ _ ⟨s2,S2,X5,rfl,⟨ls2,R2,no2,abg,od2,rm2,pm2,cs2,mo2,F2,e1,e2,e3,e4,e5,e6⟩,hX5,rfl⟩
     have c6:Ct 12 [ptr s2,ptr a] [X5] fun v Bs=>v = .bool true/\Bs=[X5]:=by
      rw [hX5];exact (SO cg e1 e2 e4 e3 V4).dr (Dn++Q) bW ⟨rfl,rfl⟩
     have c7:Ct 12 [ptr s2,ptr d] [X5] fun v Bs=>v = .bool false/\Bs=[X5]:=by
      rw [hX5];exact (F0 e4 e3 h.jm.dk.S6.rel.dl oZ h.dd).dr (M'++Q) bW ⟨rfl,rfl⟩
     refine gc c6 ?_
     rintro _ _ ⟨rfl,rfl⟩
     refine gc c7 ?_
     rintro _ _ ⟨rfl,rfl⟩
     have c8:Ct 13 [ptr a] [X5] fun v Bs=>∃d1 l1 D1 X6,v=ptr d1/\l1.map aw.nv=(lM.map (jC (u.ae+1))).map aw.nv/\yJ d1 l1 u'.ae u'.note (q - 10) G G D1/\X6=S2++(D1++(M'++Q))/\Bs=[X6]:=by
      rw [hX5]
      refine (rL V4 e3.rel.dl).on (Rs:=S2++(Dn++Q)) bW ?_
      rintro v Bs ⟨d1,l1,D1,rfl,k1,k2,rfl⟩
      exact ⟨_,Dn,⟨d1,l1,D1,_,rfl,k1,k2,rfl,rfl⟩,bW⟩
     have tail:∀ {d1:Nat} {l1:List aw} {D1 X6:Chunk},X6=S2++(D1++(M'++Q))->l1.map aw.nv=(lM.map (jC (u.ae+1))).map aw.nv->yJ d1 l1 u'.ae u'.note (q - 10) G G D1->Ct 13 [ptr d1] [X6] fun v Bs=>∃d2 l2 D2 X7,v=ptr d2/\l2.map aw.nv=l1.map aw.nv/\yJ d2 l2 u'.ae u'.note (q - 10) G G D2/\X7=S2++(D2++(D1++Q))/\Bs=[X7]:=fun hX6 k1 k2=>by
      rw [hX6]
      refine (rL k2 (e3.nvM k1).rel.dl).on (Rs:=S2++(M'++Q)) bW ?_
      rintro v Bs ⟨d2,l2,D2,rfl,k3,k4,rfl⟩
      exact ⟨_,M',⟨d2,l2,D2,_,rfl,k3,k4,rfl,rfl⟩,bW⟩
     rcases hv5 with rfl | rfl
     all_goals
      refine gc c8 ?_
      rintro _ _ ⟨d1,l1,D1,X6,rfl,k1,k2,hX6,rfl⟩
      refine gc (tail hX6 k1 k2) ?_
      rintro _ _ ⟨a2,l2,D2,X7,rfl,k3,k4,hX7,rfl⟩
      refine gn ?_
      exact ⟨(i+1,b+1,⟨p,.slice j7 w cq,s2,a2,d1⟩,X7),⟨by omega,by omega,⟨qs,ls2,R2,no2,u',abg,od2,rm2,l2,l1,G,pm2,cs2,mo2,F2,S2,D2,D1,Q,⟨⟨j7,cq,rfl,hQ⟩,e1,yc,e2,(e3.nvD k1).nvM (k3.trans k1),e4,k4,k2,⟨e5.1,Ke e5.2 gf.2⟩,by rw [IM];exact Nat.succ_le_succ xU,by rw [e6.ws];exact Nat.zero_le _⟩,e6,hX7⟩⟩,sOZ,ar,_,aa⟩
  ·obtain rfl:i=N:=oZ
   refine gd [0,4,8,12,16,20,24,28,35,38] ?_
   refine gc (abf cg hX.inv) ?_
   rintro _ _ ⟨rfl,rfl⟩
   refine gz ?_
   exact fin ⟨rfl,.inr ⟨_,r,X,hX,rfl⟩⟩ aa
end
end Go.Proofs.YtpabnmeponmonaaGreatDoor
namespace Go.Sl
open Go.ChangeShapes Go.WideShapes Go.ChangeAt Go.RowKit Go.ChangeMaps
def old (w:World):Chunk:=w.heap.toList.zipIdx.map fun x=>(x.2,x.1)
theorem Cc {w:World}{b:Nat}{o:Obj}(h:w.heap[b]? = some o):(b,o)∈old w:=by
 refine mem_map.2 ⟨(o,b), ?_,rfl⟩
 rw [mem_zipIdx_iff_getElem?]
 simpa using h
theorem rN (w:World):Own w (old w):=by
 refine ⟨?_,fun x hx => ?_⟩
 ·have:(old w).map (·.1)=List.range' 0 w.heap.toList.length:=by simp [old,Function.comp_def]
  rw [this];exact nodup_range'
 ·obtain ⟨y,hy,rfl⟩:=mem_map.1 hx
  rw [mem_zipIdx_iff_getElem?] at hy
  simpa using hy
theorem abh (w:World):Hp w [old w]:=by simpa [Hp] using rN w
theorem Ni {w w':World}{Bs:List Chunk}(h:mR w w' [old w] (old w :: Bs)):Below w.heap.size w w' :=
 ⟨h.os,h.tape,h.output,h.size,fun k hk=>by
  have e:w.heap[k]? = some w.heap[k]:=Array.getElem?_eq_getElem hk
  rw [e]
  have h1:=h.own [] (by simpa using rN w)
  exact h1.2 (k,w.heap[k]) (by simp [Cc e])⟩
def IH {H:Type}(enc:TypeId×Value->H)(P:Program)(w:World)(e:TypeId)(s:Nat){α:Type}(lay:α->List Value)(cJ:α->Prop):Prop :=
 ∀n cs x,DataW.trod enc P w 0 (fun _=>true) true n e cs=some x->cs.length=s->(x.1.weights P e).all (· <= reachBytes)=true->∃a,cs=lay a/\cJ a
section
variable {H:Type}{enc:TypeId×Value->H}{P:Program}{w:World}{t e:TypeId}{s:Nat}{α:Type}{lay:α->List Value}{cJ:α->Prop}
theorem IH.imp {F3:α->Prop}(h:IH enc P w e s lay cJ)(k:∀a,cJ a->F3 a):IH enc P w e s lay F3:=fun n cs x h1 h2 h3=>by
 obtain ⟨a,h4,h5⟩:=h n cs x h1 h2 h3
 exact ⟨a,h4,k a h5⟩
theorem IH.map {β:Type}{adY:β->List Value}{F3:β->Prop}(h:IH enc P w e s lay cJ)(k:∀a,cJ a->∃b,lay a=adY b/\F3 b):IH enc P w e s adY F3:=fun n cs x h1 h2 h3=>by
 obtain ⟨a,h4,h5⟩:=h n cs x h1 h2 h3
 obtain ⟨b,h6,h7⟩:=k a h5
 exact ⟨b,h4.trans h6,h7⟩
theorem Ce {k:IntKind}(ht:P.underlying t=some (.int k)):IH enc P w t 1 (fun z=>[.int k z]) (fun z=>(Lit.int k z).wf=true):=fun n cs x h _ _=>by
 obtain ⟨z,h1,_,h2⟩:=DataW.trod_int ht h
 exact ⟨z,h1,h2⟩
theorem jE (ht:P.underlying t=some (.int .i64)):IH enc P w t 1 (fun z=>[.int .i64 z]) (fun z => -9223372036854775808<=z/\z<=9223372036854775807) :=
 (Ce ht).imp fun z hz=>by simpa [Lit.wf,IntKind.min,IntKind.max,IntKind.signed,IntKind.bits] using hz
theorem Kl (ht:P.underlying t=some (.int .u64)):IH enc P w t 1 (fun z:Nat=>[.int .u64 z]) (fun z=>z<18446744073709551616) :=
 (Ce ht).map fun z hz=>by
  have hz:0<=z/\z<=18446744073709551615:=by simpa [Lit.wf,IntKind.min,IntKind.max,IntKind.signed,IntKind.bits] using hz
  exact ⟨z.toNat,by rw [Int.toNat_of_nonneg hz.1],by omega⟩
theorem abi (ht:P.underlying t=some (.int .u8)):IH enc P w t 1 (fun b:UInt8=>[.int .u8 b.toNat]) (fun _=>True) :=
 (Ce ht).map fun z hz=>by
  have hz:0<=z/\z<=255:=by simpa [Lit.wf,IntKind.min,IntKind.max,IntKind.signed,IntKind.bits] using hz
  refine ⟨UInt8.ofNat z.toNat, ?_,trivial⟩
  have:(UInt8.ofNat z.toNat).toNat=z.toNat:=by simp;omega
  rw [this,Int.toNat_of_nonneg hz.1]
theorem SQ (ht:P.underlying t=some .bool):IH enc P w t 1 (fun b=>[.bool b]) (fun _=>True):=fun n cs x h _ _=>by
 obtain ⟨z,h1,_⟩:=DataW.trod_bool ht h
 exact ⟨z,h1,trivial⟩
theorem nS:∀ {ds:List (DataW H)} {d:DataW H},d∈ds->∀n∈d.weights P e,n∈DataW.weightsAll P e ds
 | d0 :: ds,d,hd,n,hn=>by
  simp only [DataW.weightsAll,List.mem_append]
  rcases List.mem_cons.1 hd with rfl | hd
  ·exact .inl hn
  ·exact .inr (nS hd n hn)
 | [],_,hd,_,_=>by cases hd
theorem W5 {n:Nat}{p:Nat->α->Prop}(h:∀i,i<n->∃a,p i a):∃asx:List α,asx.length=n/\∀i a,asx[i]? = some a->p i a:=by
 induction n with
 | zero=>exact ⟨[],rfl,by simp⟩
 | succ n ih =>
  obtain ⟨asx,h1,h2⟩:=ih (fun i hi=>h i oZ)
  obtain ⟨a,ha⟩:=h n oZ
  refine ⟨asx++[a],by simp [h1],fun i b hb => ?_⟩
  by_cases hi:i<n
  ·rw [getElem?_append_left oZ] at hb;exact h2 i b hb
  ·rw [getElem?_append_right oZ] at hb
   have:i=n:=by
    have:=(List.getElem?_eq_some_iff.1 hb).1
    simp at this;omega
   subst this
   simp [h1] at hb
   exact hb ▸ ha
theorem flat_get {asx:List α}(hl:∀a∈asx,(lay a).length=s){l:Array Value}{off:Nat}:∀(k:Nat),(∀i a,asx[i]? = some a->∀j v,(lay a)[j]? = some v->l[off+(k+i)*s+j]? = some v) ->
  ∀i u,(asx.flatMap lay)[i]? = some u->l[off+k*s+i]? = some u:=by
 induction asx with
 | nil=>intro k _ i u h;simp at h
 | cons a r ih =>
  intro k h i u hu
  rw [flatMap_cons] at hu
  have ha:=hl a (mem_cons_self ..)
  by_cases hi:i<s
  ·rw [getElem?_append_left oZ] at hu
   exact h 0 a rfl i u hu
  ·rw [getElem?_append_right oZ,ha] at hu
   have:=ih (fun b hb=>hl b (mem_cons_of_mem _ hb)) (k+1) (fun i b hb j v hv=>by
    have:=h (i+1) b (by simpa using hb) j v hv
    rwa [show k+1+i=k+(i+1) by omega]) (i - s) u hu
   rw [Nat.succ_mul] at this
   rwa [show off+(k*s+s)+(i - s)=off+k*s+i by omega] at this
theorem F4 {asx:List α}(hl:∀a∈asx,(lay a).length=s):(asx.flatMap lay).length=asx.length*s:=by
 induction asx with
 | nil=>simp
 | cons a r ih=>rw [flatMap_cons,length_append,ih (fun b hb=>hl b (mem_cons_of_mem _ hb)),hl a (mem_cons_self ..),length_cons,Nat.succ_mul,Nat.add_comm]
def adZ (w:World)(s sz:Nat)(lay:α->List Value)(cJ:α->Prop)(x:Value×List α):Prop :=
 ∃ad c,x.1 = .slice ad x.2.length c/\x.2.length<=c/\c*sz<=140737488351232/\Rd (old w) s x.1 x.2.length (x.2.flatMap lay)/\∀a∈x.2,cJ a
theorem II {fs:Array Field}(ht:P.underlying t=some (.struct fs)){n:Nat}{cs:List Value}{x:DataW H×List MemPlace}(h:DataW.trod enc P w 0 (fun _=>true) true n t cs=some x)(hw:(x.1.weights P t).all (· <= reachBytes)=true)
  {i:Nat} {f:Field} (hf:fs[i]? = some f) (hd:IH enc P w f.type s lay cJ) (hs:((cs.drop f.offset).take (P.cellsOf f.type)).length=s):∃a,(cs.drop f.offset).take (P.cellsOf f.type)=lay a/\cJ a:=by
 obtain ⟨xs,m,rfl,rfl,hl,Xq,hx⟩:=DataW.trod_struct ht h
 have hi:i<fs.size:=(Array.getElem?_eq_some_iff.1 hf).1
 have h1:=hx i f hf
 rw [getElem?_eq_getElem oZ] at h1
 refine hd _ _ _ h1 hs (all_eq_true.2 fun k hk => ?_)
 simp only [DataW.weights,ht] at hw
 exact all_eq_true.1 hw k (DataW.weights_mem_each (j:=i) (by simpa using ⟨f,hf,rfl⟩) (by simp [getElem?_eq_getElem (show i<xs.length by omega)]) k hk)
theorem ef {fs:Array Field}(i off:Nat){ft:TypeId}(ht:P.underlying t=some (.struct fs)){n:Nat}{cs:List Value}{x:DataW H×List MemPlace}(h:DataW.trod enc P w 0 (fun _=>true) true n t cs=some x)(hw:(x.1.weights P t).all (· <= reachBytes)=true)
  (hf:(fs[i]?).map (fun f=>(f.type,f.offset))=some (ft,off)) (hc:P.cellsOf ft=s) (hd:IH enc P w ft s lay cJ) (hs:off+s<=cs.length):∃a,(cs.drop off).take s=lay a/\cJ a:=by
 rw [Option.map_eq_some_iff] at hf
 obtain ⟨f,h1,h2⟩:=hf
 cases h2
 have:=II ht h hw h1 hd (by rw [hc,length_take,length_drop];omega)
 rwa [hc] at this
theorem Nj {b:Nat}(ht:P.underlying t=some (.slice e)){v:Value}(h:Value.okWide P w .any b t v):v.cells.toList=[v]:=by
 obtain ⟨a,l,c,rfl⟩:=okWide_slice ht h
 rfl
theorem SR (bs:List UInt8):(bs.flatMap fun b=>[Value.int .u8 b.toNat])=au bs:=by
 induction bs with
 | nil=>rfl
 | cons b r ih=>rw [flatMap_cons,ih];rfl
end
end Go.Sl
namespace Go.Proofs.YtpabnmeponmonaaGreatDoor
open Go.Sl Go.ChangeShapes Go.WideShapes Go.ChangeAt Go.RowKit
section
variable {H:Type}{enc:TypeId×Value->H}{P:Program}{w:World}{t e:TypeId}{s:Nat}{α:Type}{lay:α->List Value}{cJ:α->Prop}{size:α->Nat}
theorem SU (d:DataW H):1<=Rows.uptoBulk d:=by
 cases d with
 | lit l=>cases l <;> simp [Rows.uptoBulk]
 | nil=>simp [Rows.uptoBulk]
 | ptr d=>simp [Rows.uptoBulk]
 | slice elems spare=>simp [Rows.uptoBulk]
 | agg parts=>simp [Rows.uptoBulk]
 | iface t d=>simp [Rows.uptoBulk]
 | map entries=>simp [Rows.uptoBulk]
 | held h=>simp [Rows.uptoBulk]
theorem oC {d:DataW H}:∀ {l:List (DataW H)},d∈l->Rows.uptoBulk d<=Rows.uptoBulkAll l
 | x :: r,h=>by
  simp only [Rows.uptoBulkAll]
  rcases List.mem_cons.1 h with rfl | h
  ·omega
  ·have:=oC h;omega
 | [],h=>by cases h
def yO (enc:TypeId×Value->H)(P:Program)(w:World)(e:TypeId)(s:Nat)(lay:α->List Value)(cJ:α->Prop)(size:α->Nat):Prop :=
 ∀n cs x,DataW.trod enc P w 0 (fun _=>true) true n e cs=some x->cs.length=s->(x.1.weights P e).all (· <= reachBytes)=true->∃a,cs=lay a/\cJ a/\size a<=Rows.uptoBulk x.1
theorem Cf (hd:IH enc P w e s lay cJ):yO enc P w e s lay cJ (fun _=>1):=fun n cs x h1 h2 h3=>by
 obtain ⟨a,h4,h5⟩:=hd n cs x h1 h2 h3
 exact ⟨a,h4,h5,SU _⟩
theorem F5:∀ {al:List α} {ds:List (DataW H)},al.length=ds.length->(∀(i:Nat) (a:α) (d:DataW H),al[i]? = some a->ds[i]? = some d->size a<=Rows.uptoBulk d)->(al.map size).sum<=Rows.uptoBulkAll ds
 | [],[],_,_=>by simp
 | a :: al,d :: ds,hl,h=>by
  have h1:=h 0 a d rfl rfl
  have h2:=F5 (al:=al) (ds:=ds) (by simpa using hl) (fun i a d ha hd=>h (i+1) a d (by simpa using ha) (by simpa using hd))
  simp only [map_cons,sum_cons,Rows.uptoBulkAll];omega
 | [],_ :: _,hl,_=>by simp at hl
 | _ :: _,[],hl,_=>by simp at hl
theorem F6 {al:List α}{a:α}(h:a∈al):size a<=(al.map size).sum:=by
 induction al with
 | nil=>cases h
 | cons b r ih =>
  rw [map_cons,sum_cons]
  rcases List.mem_cons.1 h with rfl | h
  ·omega
  ·have:=ih h;omega
theorem F7 {al:List α}(h:∀a,1<=size a):al.length<=(al.map size).sum:=by
 induction al with
 | nil=>simp
 | cons b r ih=>have:=h b;rw [map_cons,sum_cons,length_cons];omega
theorem mv (ht:P.underlying t=some (.slice e))(hs:P.cellsOf e=s)(h0:0<s){sz:Nat}(hz:P.bytesOf e=sz)(hd:yO enc P w e s lay cJ size)(one:∀a,cJ a->∀u∈lay a,u.oneCell'=true) :
  yO enc P w t 1 (fun x:Value×List α=>[x.1]) (adZ w s sz lay cJ) (fun x=>(x.2.map size).sum+1):=fun n cs x h _ hw=>by
 rcases Deep.open_slice ht h with ⟨rfl,rfl⟩ | ⟨a,len,cap,m,n,D,Pl,rfl,_,hl,hm,Cn,rfl,hx⟩
 ·exact ⟨(.slice none 0 0,[]),rfl,⟨none,0,rfl,Nat.le_refl _,by simp,⟨by simp,by simp,Nat.zero_le _,.inl ⟨rfl,none,0,rfl⟩⟩,by simp⟩,by simp [Rows.uptoBulk]⟩
 ·simp only [if_true] at Cn
  subst Cn
  simp only [DataW.weights,ht,length_map,length_range,all_cons,Bool.and_eq_true,decide_eq_true_eq,all_append] at hw
  obtain ⟨Te,NV,_⟩:=hw
  have pj:∀i,i<len->∃b:α,w.cells? 0 (a.add (i*s)) s=some (lay b)/\cJ b/\size b<=Rows.uptoBulk (D i):=fun i hi=>by
   obtain ⟨Xm,h1,h2⟩:=hx i oZ
   rw [hs] at h1
   have hlen:Xm.length=s:=(World.cells?_some h1).2.1
   obtain ⟨b,rfl,hb,bu⟩:=hd _ _ _ h2 hlen (all_eq_true.2 fun n hn=>all_eq_true.1 NV n (nS (mem_map.2 ⟨i,by simpa using hi,rfl⟩) n hn))
   exact ⟨b,h1,hb,bu⟩
  obtain ⟨al,No,has⟩:=W5 pj
  have Yq:∀b∈al,cJ b:=fun b hb=>by
   obtain ⟨i,hi⟩:=getElem?_of_mem hb
   exact (has i b hi).2.1
  have pL:∀b∈al,(lay b).length=s:=fun b hb=>by
   obtain ⟨i,hi⟩:=getElem?_of_mem hb
   exact (World.cells?_some (has i b hi).1).2.1
  have hlen:=F4 pL
  refine ⟨(.slice (some a) len m,al),rfl,⟨some a,m,by rw [No],by simp only [No];exact hl, ?_, ?_,Yq⟩, ?_⟩
  ·rw [hz,show len+(m - len)=m by omega] at Te
   exact Te
  ·simp only [No]
   refine ⟨by rw [hlen,No],fun u hu => ?_,by omega, ?_⟩
   ·obtain ⟨b,hb,hu⟩:=mem_flatMap.1 hu
    exact one b (Yq b hb) u hu
   ·by_cases Li:len=0
    ·exact .inl ⟨Li,some a,m,by rw [Li]⟩
    ·obtain ⟨b0,NH, -⟩:=pj 0 oZ
     have Vl:=(World.cells?_some NH).2.2 0 h0
     have Lq:(lay b0).length=s:=(World.cells?_some NH).2.1
     rw [getElem?_eq_getElem oZ] at Vl
     obtain ⟨b,off,spot⟩:=a
     simp only [World.cell?,Addr.add,Nat.zero_mul,Nat.add_zero] at Vl
     split at Vl
     ·rename_i l T fr hh
      have hh':w.heap[b]? = some (.cells l T fr):=hh
      cases spot with
      | some q=>simp at Vl
      | none =>
       refine .inr ⟨b,off,m,l,T,fr,rfl,Cc hh', ?_⟩
       have:=flat_get (lay:=lay) (asx:=al) (s:=s) (l:=l) (off:=off) pL 0 (fun i c hc j v hv=>by
        obtain ⟨h1,_⟩:=has i c hc
        have jL:(lay c).length=s:=(World.cells?_some h1).2.1
        have hj:j<s:=by
         have:=(List.getElem?_eq_some_iff.1 hv).1
         omega
        have h3:=(World.cells?_some h1).2.2 j hj
        rw [Addr.add_lit,Addr.add_lit,jq hh',hv] at h3
        rw [Nat.zero_add]
        exact h3)
       simpa using this
     ·cases Vl
  ·have:=F5 (size:=size) (al:=al) (ds:=(List.range len).map D) (by simp [No]) (fun i b d hb hd=>by
    rw [getElem?_map] at hd
    have hi:=(List.getElem?_eq_some_iff.1 hb).1
    rw [getElem?_range oZ] at hd
    cases hd
    exact (has i b hb).2.2)
   simp only [Rows.uptoBulk];omega
theorem yO.arg (hd:yO enc P w t 1 lay cJ size){v:Value}{d:DataW H}{p:List MemPlace}(h:DataW.Trod enc P w 0 (fun _=>true) true t v d p)(h1:v.cells.toList=[v]){ts:List TypeId}{ds:List (DataW H)}
  (hw:(DataW.weightsEach P ts ds).all (· <= reachBytes)=true) (hk:Rows.uptoSmall H ds=true) {j:Nat} (ht:ts[j]? = some t) (hdj:ds[j]? = some d):∃a,[v]=lay a/\cJ a/\size a<=1048576:=by
 obtain ⟨n,hn⟩:=h
 rw [h1] at hn
 obtain ⟨a,h2,h3,h4⟩:=hd n _ _ hn rfl (all_eq_true.2 fun k hk=>all_eq_true.1 hw k (DataW.weights_mem_each ht hdj k hk))
 have hb:Rows.uptoBulkAll ds<=1048576:=of_decide_eq_true hk
 have:=oC (mem_of_getElem? hdj)
 have h5:size a<=Rows.uptoBulk d:=h4
 exact ⟨a,h2,h3,by omega⟩
end
section
variable {H:Type}{enc:TypeId×Value->H}{P:Program}{w:World}{t e:TypeId}{s:Nat}{α:Type}{lay:α->List Value}{cJ:α->Prop}{size:α->Nat}
theorem yO.agi (hd:yO enc P w t s lay cJ size){cs:Array Value}{d:DataW H}{p:List MemPlace}(h:DataW.Trod enc P w 0 (fun _=>true) true t (.agg cs) d p)(h1:cs.size=s){ts:List TypeId}{ds:List (DataW H)}
  (hw:(DataW.weightsEach P ts ds).all (· <= reachBytes)=true) (hk:Rows.uptoSmall H ds=true) {j:Nat} (ht:ts[j]? = some t) (hdj:ds[j]? = some d):∃a,cs=(lay a).toArray/\cJ a/\size a<=1048576:=by
 obtain ⟨n,hn⟩:=h
 obtain ⟨a,h2,h3,h4⟩:=hd n _ _ hn (by rw [Array.length_toList];exact h1) (all_eq_true.2 fun k hk=>all_eq_true.1 hw k (DataW.weights_mem_each ht hdj k hk))
 have hb:Rows.uptoBulkAll ds<=1048576:=of_decide_eq_true hk
 have:=oC (mem_of_getElem? hdj)
 have h5:size a<=Rows.uptoBulk d:=h4
 exact ⟨a,by rw [<-h2];rfl,h3,by omega⟩
theorem p6 {fs:Array Field}(i off:Nat){ft:TypeId}(ht:P.underlying t=some (.struct fs)){n:Nat}{cs:List Value}{x:DataW H×List MemPlace}(h:DataW.trod enc P w 0 (fun _=>true) true n t cs=some x)(hw:(x.1.weights P t).all (· <= reachBytes)=true)
  (hf:(fs[i]?).map (fun f=>(f.type,f.offset))=some (ft,off)) (hc:P.cellsOf ft=s) (hd:yO enc P w ft s lay cJ size) (hs:off+s<=cs.length):∃a,(cs.drop off).take s=lay a/\cJ a/\size a+1<=Rows.uptoBulk x.1:=by
 rw [Option.map_eq_some_iff] at hf
 obtain ⟨f,h1,h2⟩:=hf
 cases h2
 obtain ⟨xs,m,rfl,rfl,hl,Xq,hx⟩:=DataW.trod_struct ht h
 have hi:i<fs.size:=(Array.getElem?_eq_some_iff.1 h1).1
 have h3:=hx i f h1
 rw [getElem?_eq_getElem oZ] at h3
 have fS:((cs.drop f.offset).take (P.cellsOf f.type)).length=s:=by rw [hc,length_take,length_drop];omega
 obtain ⟨a,h4,h5,h6⟩:=hd _ _ _ h3 fS (all_eq_true.2 fun k hk=>by
  simp only [DataW.weights,ht] at hw
  exact all_eq_true.1 hw k (DataW.weights_mem_each (j:=i) (by simpa using ⟨f,h1,rfl⟩) (by simp [getElem?_eq_getElem (show i<xs.length by omega)]) k hk))
 rw [hc] at h4
 refine ⟨a,h4,h5, ?_⟩
 have hp:=oC (H:=H) (d:=(xs[i]'oZ).1) (l:=xs.map (·.1)) (mem_map.2 ⟨_,getElem_mem _,rfl⟩)
 simp only [Rows.uptoBulk]
 omega
end
theorem SV {α:Type}(l:List α):(l.map fun _=>1).sum=l.length:=by
 induction l with
 | nil=>rfl
 | cons a l ih=>rw [map_cons,sum_cons,ih,length_cons,Nat.add_comm]
structure abj (W:World)(e:ry×List UInt8):Prop where
 b:∃ad c,e.1.b = .slice ad e.2.length c/\e.2.length<=c/\Rd (old W) 1 e.1.b e.2.length (au e.2)
 x:e.1.x<=9223372036854775807/\e.1.y<=9223372036854775807
 nt:e.1.nt<18446744073709551616
theorem abk {W:World}(x:ry×List UInt8)(h:abj W x):∀u∈ry.lay x.1,u.oneCell'=true:=fun u hu=>by
 obtain ⟨ad,c,hb, -⟩:=h.b
 simp only [ry.lay,hb,List.mem_cons,not_mem_nil,or_false] at hu
 rcases hu with rfl | rfl | rfl | rfl | rfl | rfl | rfl <;> rfl
section
variable {H:Type}{enc:TypeId×Value->H}{w:World}
theorem W6:IH enc prog w 23 3 Tp.lay (fun _=>True):=fun n cs x h hlen hw=>by
 match cs,hlen with
 | [c0,c1,c2],_ =>
 have ki:prog.cellsOf 3=1:=by kernel_rfl
 have ht:=underlying23
 obtain ⟨a0,e0,h0⟩:=ef 0 0 ht h hw rfl ki (jE (enc:=enc) underlying3) (by simp)
 obtain ⟨a1,e1,h1⟩:=ef 1 1 ht h hw rfl ki (jE (enc:=enc) underlying3) (by simp)
 obtain ⟨a2,e2,h2⟩:=ef 2 2 ht h hw rfl ki (jE (enc:=enc) underlying3) (by simp)
 simp only [drop_succ_cons,drop_zero,take_succ_cons,take_zero,List.cons.injEq,and_true] at e0 e1 e2
 subst e0 e1 e2
 exact ⟨⟨a0,a1,a2⟩,rfl,trivial⟩
theorem W7:yO enc prog w 36 7 (fun x:ry×List UInt8=>ry.lay x.1) (abj w) (fun x=>x.2.length+1):=fun n cs x h hlen hw=>by
 match cs,hlen with
 | [c0,c1,c2,c3,c4,c5,c6],_ =>
 have ki:prog.cellsOf 3=1:=by kernel_rfl
 have ku:prog.cellsOf 30=1:=by kernel_rfl
 have kb:prog.cellsOf 34=1:=by kernel_rfl
 have ht:=underlying36
 obtain ⟨a0,e0,h0⟩:=ef 0 0 ht h hw rfl ki (jE (enc:=enc) underlying3) (by simp)
 obtain ⟨a1,e1,h1⟩:=ef 1 1 ht h hw rfl ki (jE (enc:=enc) underlying3) (by simp)
 obtain ⟨a2,e2,h2⟩:=ef 2 2 ht h hw rfl ki (jE (enc:=enc) underlying3) (by simp)
 obtain ⟨a3,e3,h3⟩:=ef 3 3 ht h hw rfl ki (jE (enc:=enc) underlying3) (by simp)
 obtain ⟨a4,e4,h4⟩:=ef 4 4 ht h hw rfl ki (jE (enc:=enc) underlying3) (by simp)
 obtain ⟨a5,e5,h5⟩:=ef 5 5 ht h hw rfl ku (Kl (enc:=enc) underlying30) (by simp)
 obtain ⟨⟨v6,l6⟩,e6,g6,s6⟩:=p6 6 6 ht h hw rfl kb (mv (enc:=enc) (s:=1) (sz:=1) underlying34 yZ dZ yZ (Cf (abi underlying5)) (fun _ _ u hu=>by rw [mem_singleton.1 hu];rfl)) (by simp)
 simp only [drop_succ_cons,drop_zero,take_succ_cons,take_zero,List.cons.injEq,and_true] at e0 e1 e2 e3 e4 e5 e6
 subst e0 e1 e2 e3 e4 e5 e6
 obtain ⟨ad,c,g1,g2, -,g3, -⟩:=g6
 simp only at g1 g2 g3 s6
 rw [SR] at g3
 have o6:(l6.map fun _=>1).sum=l6.length:=SV l6
 exact ⟨(⟨a0,a1,a2,a3,a4,a5,c6⟩,l6),rfl,⟨⟨ad,c,g1,g2,g3⟩,⟨h3.2,h4.2⟩,h5⟩,sOZ⟩
end
theorem SW {W:World}(h:laidMetH prog [("undercroft/sum.rounds",Rows.laid_undercroft_sum_rounds)] W):∃T fr,(0,Obj.cells (fh oH).toArray T fr)∈old W:=by
 rw [MakeChecks.laidMetH_plain _ _ _ yZ] at h
 obtain ⟨ps,⟨g0,t0,cs,f0,p0,q0,hg0,ht0,hv,hd0,_,_⟩,_,_⟩:=h
 have a0:prog.globalNamed "undercroft/sum.rounds" = some 0:=by kernel_rfl
 obtain rfl:=Option.some.inj (a0.symm.trans hg0)
 obtain rfl:=Option.some.inj ((show (prog.globals[(0:Nat)]?).map (·.type)=some 379 by kernel_rfl).symm.trans ht0)
 have ce:prog.cellsOf 318=1:=by kernel_rfl
 have ct:prog.cellsOf 379=64:=by kernel_rfl
 have hd:DataW.trod (fun _:TypeId×Value=>()) prog W 0 (fun _=>true) false f0 379 cs.toList=some (DataW.agg (oH.map fun n=>.lit (.int .u32 n)),p0):=hd0
 obtain ⟨xs,k,_,ex,hlen,hl,Kw⟩:=DataW.trod_array underlying379 hd
 rw [ct] at hlen
 have e3:(xs.map (·.1))=oH.map fun n=>(DataW.lit (.int .u32 n):DataW Unit):=(DataW.agg.inj (Prod.mk.inj ex).1).symm
 have N1:cs.toList=fh oH:=by
  apply ext_getElem?
  intro i
  rcases Nat.lt_or_ge i 64 with hi | hi
  ·have hE:=Kw i hi
   have jQ:i<oH.length:=hi
   rw [ce,Nat.mul_one,getElem?_eq_getElem oZ] at hE
   obtain ⟨z,e1,e2,_⟩:=DataW.trod_int underlying318 hE
   have e4:(xs.map (·.1))[i]? = (oH.map fun n=>(DataW.lit (.int .u32 n):DataW Unit))[i]?:=by rw [e3]
   rw [getElem?_map,getElem?_map,getElem?_eq_getElem (by omega:i<xs.length),getElem?_eq_getElem jQ,e2] at e4
   simp only [Option.map_some,Option.some.injEq,DataW.lit.injEq,Lit.int.injEq,true_and] at e4
   have h0:((cs.toList.drop i).take 1)[0]? = some (.int .u32 z):=by rw [e1];rfl
   have h1:cs.toList[i]? = some (.int .u32 z):=by simpa using h0
   rw [h1,e4,fh,getElem?_map,getElem?_eq_getElem jQ]
   rfl
  ·rw [getElem?_eq_none oZ,getElem?_eq_none (by rw [fh,length_map];exact hi)]
 simp only [World.var?,a0,Option.bind_some] at hv
 split at hv
 ·rename_i c T fr hh
  cases hv
  exact ⟨T,fr,Cc (by rw [<-N1];simpa using hh)⟩
 ·cases hv
def W8 (W:World)(g:Nat):Chunk:=(old W).filter fun x=>decide (x.1≠g)
theorem W9 {W:World}{g:Nat}{o:Obj}(h:(g,o)∈old W):(old W).Perm ([(g,o)]++W8 W g):=by
 have hn:=(rN W).1
 unfold W8
 generalize old W=L at *
 induction L with
 | nil=>cases h
 | cons x r ih =>
  rw [map_cons,nodup_cons] at hn
  by_cases c:x.1=g
  ·have hx:(g,o)=x:=by
    rcases List.mem_cons.1 h with h | h
    ·exact h
    ·exact absurd (mem_map.2 ⟨_,h,rfl⟩) (by rw [<-c] at *;exact hn.1)
   subst hx
   rw [filter_cons_of_neg (by simp),filter_eq_self.2 fun y hy=>by
    simp only [ne_eq,decide_not,Bool.not_eq_true',decide_eq_false_iff_not]
    intro hc
    exact hn.1 (mem_map.2 ⟨y,hy,hc⟩)]
   exact List.Perm.refl _
  ·have h':(g,o)∈r:=by
    rcases List.mem_cons.1 h with h | h
    ·subst h;exact absurd rfl c
    ·exact h
   rw [filter_cons_of_pos (by simpa using c)]
   exact ((ih h' hn.2).cons x).trans (List.Perm.swap ..)
theorem Rd.off {W:World}{g s n:Nat}{v:Value}{xs:List Value}{T:TypeId}{fr:Nat×Nat}(ho:(g,Obj.cells (fh oH).toArray T fr)∈old W)(h:Rd (old W) s v n xs)(hx:∀x∈xs,∀z,x ≠ .int .u32 z)(hs:0<s):Rd (W8 W g) s v n xs:=by
 obtain ⟨h1,h2,h3,h4⟩:=h
 refine ⟨h1,h2,h3, ?_⟩
 rcases h4 with h4 | ⟨b,off,c,l,T',cf,e,hm,jv⟩
 ·exact .inl h4
 ·by_cases hn:n=0
  ·exact .inl ⟨hn,_,c,by rw [e,hn]⟩
  ·refine .inr ⟨b,off,c,l,T',cf,e,mem_filter.2 ⟨hm,decide_eq_true fun hc => ?_⟩,jv⟩
   have hc:b=g:=hc
   subst hc
   have e1:=(rN W).2 _ hm
   have e2:=(rN W).2 _ ho
   simp only at e1 e2
   rw [e1] at e2
   cases e2
   have hl:0<xs.length:=by rw [h1];exact Nat.mul_pos oZ hs
   have h5:=jv 0 xs[0] (by rw [getElem?_eq_getElem hl])
   have h6:xs[0]∈fh oH:=by
    have:=mem_of_getElem? (l:=fh oH) (i:=off+0) (a:=xs[0]) (by simpa using h5)
    exact this
   obtain ⟨z, -,hz⟩:=mem_map.1 h6
   exact hx _ (getElem_mem hl) z hz.symm
structure kg where
 sc:Value
 l:List (ry×List UInt8)
 nt:Nat
 af:Int
 sv:Value
 st:List Bool
def kg.Km (F:kg):xP:=⟨F.sc,F.l.map (·.1),F.nt,F.af,F.sv,F.st⟩
def kg.size (F:kg):Nat:=(F.l.map fun x=>x.2.length+1).sum+2
structure SX (W:World)(F:kg):Prop where
 sc:∃ad c,F.sc = .slice ad F.l.length c/\Rd (old W) 7 F.sc F.l.length (F.l.flatMap fun x=>ry.lay x.1)
 ok:∀y∈F.l,abj W y
 nt:F.nt<18446744073709551616
 af : -9223372036854775808<=F.af/\F.af<=9223372036854775807
 sv:∃ad c,F.sv = .slice ad F.st.length c/\Rd (old W) 1 F.sv F.st.length (F.st.map .bool)
theorem Xa {W:World}(F:kg)(h:SX W F):∀u∈xP.lay F.Km,u.oneCell'=true:=fun u hu=>by
 obtain ⟨ad,c,hb, -⟩:=h.sc
 obtain ⟨ad2,c2,Uz, -⟩:=h.sv
 simp only [xP.lay,kg.Km,hb,Uz,List.mem_cons,not_mem_nil,or_false] at hu
 rcases hu with rfl | rfl | rfl | rfl <;> rfl
theorem xQ:∀(l:List Bool),(l.flatMap fun b=>[Value.bool b])=l.map .bool
 | []=>rfl
 | b :: l=>by rw [flatMap_cons,xQ l];rfl
section
variable {H:Type}{enc:TypeId×Value->H}{w:World}
theorem Nk:yO enc prog w 33 4 (fun F:kg=>xP.lay F.Km) (SX w) kg.size:=fun n cs x h hlen hw=>by
 match cs,hlen with
 | [c0,c1,c2,c3],_ =>
 have ki:prog.cellsOf 3=1:=by kernel_rfl
 have ku:prog.cellsOf 30=1:=by kernel_rfl
 have ko:prog.cellsOf 29=1:=by kernel_rfl
 have kb:prog.cellsOf 31=1:=by kernel_rfl
 have ht:=underlying33
 obtain ⟨⟨v0,l0⟩,e0,g0,s0⟩:=p6 0 0 ht h hw rfl ko (mv (enc:=enc) (s:=7) (sz:=72) underlying29 yZ dZ yZ W7 abk) (by simp)
 obtain ⟨a1,e1,h1⟩:=ef 1 1 ht h hw rfl ku (Kl (enc:=enc) underlying30) (by simp)
 obtain ⟨a2,e2,h2⟩:=ef 2 2 ht h hw rfl ki (jE (enc:=enc) underlying3) (by simp)
 obtain ⟨⟨v3,l3⟩,e3,g3,s3⟩:=p6 3 3 ht h hw rfl kb (mv (enc:=enc) (s:=1) (sz:=1) underlying31 yZ dZ yZ (Cf (SQ underlying4)) (fun _ _ u hu=>by rw [mem_singleton.1 hu];rfl)) (by simp)
 simp only [drop_succ_cons,drop_zero,take_succ_cons,take_zero,List.cons.injEq,and_true] at e0 e1 e2 e3
 subst e0 e1 e2 e3
 obtain ⟨ad,c,g1,g2, -,g4,g5⟩:=g0
 obtain ⟨bz,c',f1,f2, -,f4, -⟩:=g3
 simp only at g1 g2 g4 g5 s0 f1 f2 f4
 rw [xQ] at f4
 exact ⟨⟨c0,l0,a1,a2,c3,l3⟩,rfl,⟨⟨ad,c,g1,g4⟩,g5,h1,h2,⟨bz,c',f1,f4⟩⟩,by simp only [kg.size];omega⟩
end
theorem zN:∀(l:List kg),rM (l.map kg.Km)<=(l.map kg.size).sum
 | []=>Nat.zero_le _
 | F :: l=>by
  have ih:=zN l
  have h1:F.l.length<=(F.l.map fun x=>x.2.length+1).sum:=F7 (al:=F.l) (size:=fun x:ry×List UInt8=>x.2.length+1) (fun _=>by omega)
  unfold rM at *
  rw [map_cons,map_cons,map_cons,sum_cons,sum_cons]
  have h2:F.size=(F.l.map fun x=>x.2.length+1).sum+2:=rfl
  have h3:F.Km.ops.length=F.l.length:=length_map ..
  omega
theorem F8 {T:TypeId}{fr:Nat×Nat}{tp:Tp}{pr:Bool}{n w:Nat}(nJ:tp.nJ)(ok:dj tp pr n w)(n2:n<=2048)(hw:w=tp.leaves.toNat)(A:Chunk)(fs:List xP)(N:Nat)(hN:fs.length=N)(hf:rM fs<=1048576)(aO:∀f∈fs,Yp A f)(tX:Option Addr)(cF:Nat)(hF:Rd A 4 (.slice tX N cF) N (fs.flatMap xP.lay)) :
  ∃q,Ct 3 [tp.agg,.slice tX N cF] [gK T fr,A] fun u Bs=>u = .bool true/\(Bs=[gK T fr,A]\/∃b r X,kO T fr tp pr n q w b r X/\Bs=[X,A]):=by
 obtain ⟨q,hq⟩:∃q,q=bD pr w n / aL pr w 1024 / 4:=⟨_,rfl⟩
 have hb:=fun O ad c hO=>Nc (T:=T) (fr:=fr) nJ ok n2 hw O ad c hO
 rw [<-hq] at hb
 exact ⟨q,Nh nJ (fun Yg=>⟨nJ,ok,n2,hw,hq.symm,Yg⟩) (fun O ad c hO=>(hb O ad c hO).to fun v Bs h=>h.elim (fun ⟨_,h1,h2⟩=>.inl ⟨h1,h2⟩) fun ⟨h1,rg,r,X,h2,h3,h4⟩=>.inr ⟨h1,rg,r,X,h2,h3,h4⟩) A fs N hN hf aO tX cF hF⟩
theorem abl {T:TypeId}{fr:Nat×Nat}{tp:Tp}{pr:Bool}{n q w i:Nat}{r:Rg}{X:Chunk}(h:kO T fr tp pr n q w i r X):∃B,X.Perm (gK T fr++B):=by
 obtain ⟨qs,ls,R,no,u,all,od,rm,lM,lD,G,pm,cs,mo,ring,S,M,Dn,Q,h, -,rfl⟩:=h
 obtain ⟨t,al,ra,rd,C,V,LA,CA,VA,Ld,CD,VD,Al,hV,hC,hA,hG,hD,hP,hL,rfl⟩:=h.st
 exact ⟨[(r.s,bU t (ptr al) ra rd u.ae u.note)]++(C++(V++(CA++(VA++(CD++(VD++(Al++(M++(Dn++Q))))))))),bW⟩
theorem Ch (W:World)(hL:laidMetH prog Rows.topCrashesUptoRow.laid W)(X0:Tp)(_:True)(_:1<=1048576)(X1:Value×List kg)(g1:adZ W 4 64 (fun F:kg=>xP.lay F.Km) (SX W) X1)(s1:(X1.2.map kg.size).sum+1<=1048576) :
  TD prog 3 #[.agg X0.lay.toArray,X1.1] W fun u w'=>u = .bool true/\mR W w' [old W] [old W]:=by
 obtain ⟨T,fr,ho⟩:=SW hL
 have hp:=W9 ho
 have aea:Hp W [old W]:=abh W
 by_cases hc:¬X0.nJ
 ·refine (((IG X0 X1.1 hc).dr (P':=fun u Bs=>u = .bool true/\Bs=[old W]) (old W) (by simp) ⟨rfl,rfl⟩) W aea).mono ?_
  rintro u w' ⟨Bs,⟨hu,rfl⟩,ht⟩
  exact ⟨hu,ht⟩
 ·have abm:X0.nJ:=Classical.byContradiction hc
  have h2:X0.bE.toNat<=2048:=by have:=abm.2.1;omega
  obtain ⟨v,l⟩:=X1
  obtain ⟨ad,c,hv,hlc, -,hR,hG⟩:=g1
  simp only at s1 hR hG hlc hv ⊢
  subst hv
  have ahk:=zN l
  have ju:(l.flatMap fun F=>xP.lay F.Km)=(l.map kg.Km).flatMap xP.lay:=by rw [flatMap_map]
  rw [ju] at hR
  have ey:∀x∈(l.map kg.Km).flatMap xP.lay,∀z,x ≠ .int .u32 z:=fun x hx z=>by
   obtain ⟨f,hf,hx⟩:=mem_flatMap.1 hx
   obtain ⟨F,hF,rfl⟩:=mem_map.1 hf
   obtain ⟨ad,c,hb, -⟩:=(hG F hF).sc
   obtain ⟨ad2,c2,Uz, -⟩:=(hG F hF).sv
   simp only [xP.lay,kg.Km,hb,Uz,List.mem_cons,not_mem_nil,or_false] at hx
   rcases hx with rfl | rfl | rfl | rfl <;> simp
  have hA:=Rd.off ho hR ey dZ
  obtain ⟨q,ct⟩:=F8 (T:=T) (fr:=fr) abm (aaw abm) h2 rfl (W8 W 0) (l.map kg.Km) l.length (length_map ..) oZ (fun f hf=>by
   obtain ⟨F,hF,rfl⟩:=mem_map.1 hf
   obtain ⟨⟨ad,c,hb,hr⟩,hy,hn,ha,ad2,c2,Uz,hr2⟩:=hG F hF
   have bu:=F6 (size:=kg.size) hF
   have fS:=F7 (al:=F.l) (size:=fun x:ry×List UInt8=>x.2.length+1) (fun _=>by omega)
   have hsd:F.size=(F.l.map fun x=>x.2.length+1).sum+2:=rfl
   have PW:F.Km.ops.length=F.l.length:=length_map ..
   refine ⟨⟨ad,c,by rw [PW];exact hb, ?_⟩,by omega,fun o dS => ?_,hn,ha,⟨ad2,c2,Uz, ?_⟩⟩
   ·rw [PW,<-hb]
    have e:(F.l.flatMap fun x=>ry.lay x.1)=F.Km.ops.flatMap ry.lay:=by rw [kg.Km,flatMap_map]
    rw [e] at hr
    refine Rd.off ho hr (fun x hx z => ?_) dZ
    obtain ⟨o,dS,hx⟩:=mem_flatMap.1 hx
    obtain ⟨y,hy',rfl⟩:=mem_map.1 dS
    obtain ⟨ad,c,hb, -⟩:=(hy y hy').b
    simp only [ry.lay,hb,List.mem_cons,not_mem_nil,or_false] at hx
    rcases hx with rfl | rfl | rfl | rfl | rfl | rfl | rfl <;> simp
   ·obtain ⟨y,hy',rfl⟩:=mem_map.1 dS
    obtain ⟨⟨ad,c,hb,XG,hr⟩,hx,hn⟩:=hy y hy'
    have ahl:=F6 (size:=fun x:ry×List UInt8=>x.2.length+1) hy'
    refine ⟨⟨ad,y.2.length,c,y.2,hb, ?_,rfl,XG,by omega⟩,by omega,hn⟩
    rw [<-hb]
    exact Rd.off ho hr (fun x hx z=>by
     obtain ⟨b, -,rfl⟩:=mem_map.1 hx
     simp) dZ
   ·show Rd _ 1 (.slice ad2 F.st.length c2) F.st.length (F.st.map .bool)
    rw [<-Uz]
    exact Rd.off ho hr2 (fun x hx z=>by
     obtain ⟨b, -,rfl⟩:=mem_map.1 hx
     simp) dZ) ad c hA
  refine ((ct.on (Ls:=[old W]) (P':=fun u Bs=>u = .bool true/\Bs=[old W]) (Rs:=[]) (by simpa using hp) ?_) W aea).mono ?_
  ·rintro u Bs ⟨hu,rfl | ⟨b,r,X,hX,rfl⟩⟩
   ·refine ⟨[old W],[],⟨hu,rfl⟩, ?_⟩
    simp only [flatten_cons,flatten_nil,append_nil]
    exact hp.symm
   ·obtain ⟨B,hB⟩:=abl hX
    refine ⟨[old W],B,⟨hu,rfl⟩, ?_⟩
    simp only [flatten_cons,flatten_nil,append_nil]
    refine (hB.append_right _).trans ?_
    rw [append_assoc]
    refine (List.Perm.append_left _ perm_append_comm).trans ?_
    rw [<-append_assoc]
    exact hp.symm.append_right _
  ·rintro u w' ⟨Bs,⟨hu,rfl⟩,ht⟩
   exact ⟨hu,ht⟩
end Go.Proofs.YtpabnmeponmonaaGreatDoor
namespace Go.Sl
open Go.ChangeShapes Go.WideShapes Go.ChangeAt Go.RowKit
section
variable {H:Type}{enc:TypeId×Value->H}{P:Program}
theorem xR (hl:laidOutB P=true){W W':World}(hb:Below W.heap.size W W'){sp:Nat->Bool}:∀(ts:List TypeId) (vs:List Value) (ds:List (DataW H)) (ps:List MemPlace),
  (∀t∈ts,P.readableRec t=true/\t<P.types.size)->DataW.TrodAll enc P W 0 (fun _=>true) true ts vs ds ps->(∀x∈ps,x.block<W.heap.size)->(∀x∈ps,sp x.block=true)->DataW.TrodAll enc P W' 0 sp true ts vs ds ps
 | [],vs,ds,ps,_,h,_,_=>by
  obtain ⟨rfl,rfl,rfl⟩:=trodAll_nil h
  exact trodAll_mk0
 | t :: ts,vs,ds,ps,ht,h,br,JF=>by
  obtain ⟨v0,vs0,d0,VQ,p0,q0,rfl,rfl,rfl,h0,r0⟩:=trodAll_cons h
  refine trodAll_cons_mk ?_ (xR hl hb ts vs0 VQ q0 (fun u hu=>ht u (mem_cons_of_mem _ hu)) r0 (fun x hx=>br x (mem_append_right _ hx)) (fun x hx=>JF x (mem_append_right _ hx)))
  exact WideElems.Trod_stays hl (ht t (mem_cons_self ..)).1 (ht t (mem_cons_self ..)).2 h0 (fun x hx=>hb.same (br x (mem_append_left _ hx))) (fun x hx=>JF x (mem_append_left _ hx))
theorem IJ {f:Func}{s:ChangeSpec}{apart fresh handsOn again:Bool}{W W':World}{args:Array Value}{ds gs:List (DataW H)}{before:List MemPlace}{tb:TypeId}
  (hl:laidOutB P=true) (hW:DataW.Whole enc P f.params.toList s.vars apart W args.toList ds gs before) (Yr:s.vars=[])
  (hts:∀t∈f.params.toList,P.readableRec t=true/\t<P.types.size) (hrt:f.resultTypes=#[tb]) (htb:P.underlying tb=some .bool)
  (hs:(s.fn H (ds++gs))={ results:=[.lit (.bool true)],args:=ds }) (hb:Below W.heap.size W W') :
  s.post enc P f apart fresh handsOn again W args (.bool true) W':=by
 have br:∀p∈before,p.block<W.heap.size:=fun p hp=>hW.lt p hp
 obtain ⟨p,q,hA,hV,rfl,hz,hn⟩:=id hW
 rw [Yr] at hV
 obtain ⟨rfl,rfl⟩:=trodVars_none hV
 simp only [append_nil] at *
 have SY:∀sp:Nat->Bool,(∀x∈p,sp x.block=true)->DataW.TrodAll enc P W' 0 sp true f.params.toList args.toList (s.fn H ds).args p:=fun sp JF=>by
  rw [hs];exact xR hl hb _ _ _ _ hts hA br JF
 have Fc:∀(b:Nat) (sp:Nat->Bool) (hd:Bool),DataW.TrodAll enc P W' b sp hd f.resultTypes.toList ((Value.bool true).resultList f.resultTypes.size) (s.fn H ds).results []:=fun b sp hd=>by
  rw [hs,hrt];exact trodAll_mk1 (shut_bool htb true)
 have hvs:∀sp:Nat->Bool,DataW.TrodVars enc P W' sp s.vars (s.fn H ds).vars []:=fun sp=>by
  rw [Yr,hs];exact rfl
 refine ⟨ds,[],p,[],p,[],hW,by simpa using Fc _ _ _,by simpa using SY _ (fun x hx=>by simpa using br x hx),by simpa using hvs _,World.keptBut_mono (fun x hx=>⟨hx, ?_⟩) (hb.frame (· ∈ p)),fun _ => ?_⟩
 ·exact Or.inr (Or.inl hx)
 ·have aO:∀(j:Nat) (t:TypeId) (r:Value),f.resultTypes[j]? = some t->((Value.bool true).resultList f.resultTypes.size)[j]? = some r->Value.okWide P W' .any 0 t r :=
   ok_one hrt rfl (okWide_bool_mk htb true)
  have h1:=trodAll_append (SY (fun _=>true) (fun _ _=>rfl)) (Fc 0 (fun _=>true) true)
  refine ⟨aO,_,[],[]++p,⟨[]++p,[],h1,by have:=hvs (fun _=>true);rw [hs] at this;exact this,by simp, ?_, ?_⟩,fun x hx _=>by simpa using hx⟩
  ·intro b off hx
   have jH:MemPlace.cell b off∈p:=by simpa using hx
   rw [hb.frozen (br _ jH)]
   exact hz b off jH
  ·intro ha
   simpa using hn ha
end
end Go.Sl
namespace Go.Proofs.YtpabnmeponmonaaGreatDoor
open Go.Sl Go.ChangeShapes Go.WideShapes Go.ChangeAt Go.RowKit Go.ChangeMaps
theorem p7:ownKnob prog.godebug=none:=by kernel_rfl
theorem gZ:laidOutB prog=true:=by kernel_rfl
theorem oV (os:Os)(args:Array Value):laidMetH prog Rows.topCrashesUptoRow.laid ((World.doorLaid prog 14 os).forCall (fun _ _=>0) ⟨#[],args,[]⟩).memory :=
 laidMetH_of_parts3 (fuel:=8) (laidMet_of_run' 8 yZ yZ) yZ yZ
set_option maxRecDepth 100000 in
theorem mQ (os:Os)(started:os.Started)(H:Type)(enc:TypeId×Value->H)(F:Stop.Interp) :
  ReturnsInHanded {} Tryz.checked os 3 .any ((Rows.OpenSpec.upto Rows.topCrashesSpec).preRow enc prog Tryz.f3 Rows.topCrashesUptoRow.domain false Rows.topCrashesUptoRow.laid) (((Rows.OpenSpec.upto Rows.topCrashesSpec).at F).post enc prog Tryz.f3 false true false false):=by
 refine returnsInHanded_of_row (C:=Tryz.checked) (s:=Rows.OpenSpec.upto Rows.topCrashesSpec) p7 started yZ func3
  (witness_row_at (enc:=enc) (C:=Tryz.checked) false (World.doorLaid prog 14 os) #[.agg #[.int .i64 0,.int .i64 0,.int .i64 0],.slice none 0 0] rfl yZ yZ yZ
   (OpenSpec.preRow_of_cond 8 (x:=([.agg [.lit (.int .i64 0),.lit (.int .i64 0),.lit (.int .i64 0)],.nil],[],[])) yZ yZ (fun k hk=>by cases hk;kernel_rfl) yZ (oV os _))) ?_
 intro W base args ds gs before aeb hW _ aec hz hL _ _
 have hk:=aec _ rfl
 have abn:∀(j:Nat) t v,Tryz.f3.params[j]? = some t->args[j]? = some v->Value.okWide prog W .any base t v:=aeb
 have hW':=hW
 obtain ⟨p,q,hA0,hV,rfl,hfz,eF⟩:=hW
 have hA:DataW.TrodAll enc prog W 0 (fun _=>true) true Tryz.f3.params.toList args.toList ds p:=hA0
 rw [Tryz.params3] at hA abn
 obtain ⟨v0,vs0,d0,VQ,p0,q0,SY,rfl,rfl,h0,r0⟩:=trodAll_cons hA
 obtain ⟨v1,vs1,d1,qO,p1,q1,rfl,rfl,rfl,h1,r1⟩:=trodAll_cons r0
 obtain ⟨rfl,rfl,rfl⟩:=trodAll_nil r1
 obtain rfl:args=#[v0,v1]:=by cases args;simp_all
 obtain ⟨rfl,rfl⟩:=trodVars_none hV
 obtain ⟨cs0,rfl,agj⟩:=okWide_struct underlying23 (abn 0 _ v0 rfl rfl)
 obtain ⟨X0,rfl,g0,s0⟩:=((Cf W6)).agi h0 (agj.trans yZ) hz hk (j:=0) rfl rfl
 obtain ⟨X1,e1,g1,s1⟩:=((mv (s:=4) (sz:=64) underlying24 yZ dZ yZ Nk Xa)).arg h1 (Nj underlying24 (abn 1 _ v1 rfl rfl)) hz hk (j:=1) rfl rfl
 simp only [List.cons.injEq,and_true] at e1
 subst e1
 refine Calls.mono (Ch W hL X0 g0 s0 X1 g1 s1) fun e W' ⟨v,he,hv,hT⟩ => ?_
 subst he hv
 exact ⟨_,rfl,IJ gZ hW' rfl (by intro t ht;rw [Tryz.params3] at ht;simp at ht;rcases ht with rfl | rfl <;> exact ⟨by kernel_rfl,of_decide_eq_true yZ⟩) rfl underlying4 rfl (Ni hT)⟩
theorem tt2:mapsRowed Tryz.pinned.checked.prog=true:=by kernel_rfl
theorem tt9:(Rows.topCrashesUptoRow.inPlace==Tryz.pinned.checked.prog.inPlace 3)=true:=by kernel_rfl
theorem agk:(Rows.topCrashesUptoRow.unfollowed==Tryz.pinned.checked.prog.unfollowed 3)=true:=by kernel_rfl
theorem agl:(Rows.topCrashesUptoRow.recurses==Tryz.pinned.checked.prog.recurses 3)=true:=by kernel_rfl
theorem agm:(Rows.topCrashesUptoRow.named==Tryz.pinned.checked.prog.varsNamed 3)=true:=by kernel_rfl
theorem agn:(Rows.topCrashesUptoRow.plainKeys==Tryz.pinned.checked.prog.plainKeys)=true:=by kernel_rfl
theorem ago:Tryz.pinned.checked.prog.stopsHeard=true:=by kernel_rfl
theorem agp:Tryz.pinned.checked.prog.mayEnter=true:=by kernel_rfl
theorem agq:(Rows.topCrashesUptoRow.lifted==Tryz.pinned.checked.prog.liftsFinal)=true:=by kernel_rfl
theorem fR {a b:Bool}(h:a=true)(k:b=true):(a&&b)=true:=by rw [h,k];rfl
theorem p9:Rows.TopCrashesUptoSaid :=
 OpenClaim.holds_of_cond 3 Tryz.f3 rfl rfl rfl rfl rfl rfl rfl ⟨rfl,rfl,rfl,rfl,rfl⟩ rfl rfl rfl rfl rfl yZ func3
  (fR (fR (fR (fR (fR (fR (fR (fR (fR (fR (fR (fR (fR (fR (fR (fR (fR (fR (fR (fR (fR (fR (fR (fR (fR (fR (fR (fR (fR (fR (fR yZ gZ) tt2) yZ) yZ) yZ) yZ) yZ) yZ) tt9) agk) agl) agm) yZ) yZ) yZ) yZ) yZ) yZ) yZ) yZ) yZ) agn) yZ) ago) agp) agq) yZ) yZ) yZ) yZ) yZ)
  (of_decide_eq_true yZ) (by unfold Func.isWrapper;first | (rw [if_pos (by decide +kernel)];kernel_rfl) | (rw [if_neg (by decide +kernel)];exact ⟨rfl,rfl⟩))
  (fun os started H enc _ F=>by rw [OpenClaim.pre_eq_preRow];exact mQ os started H enc F)
end Go.Proofs.YtpabnmeponmonaaGreatDoor
