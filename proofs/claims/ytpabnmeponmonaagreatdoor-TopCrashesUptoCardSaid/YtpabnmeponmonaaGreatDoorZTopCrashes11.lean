/-
  11.
-/
import Derived.Test.YtpabnmeponmonaaGreatDoorZTopCrashes10
set_option maxRecDepth 10000
set_option maxHeartbeats 4000000
open List Go.Proofs.Tryz Go.Sl
namespace Go.Sl
def fZ:eE:=replicate 128 0
def Rk.add (R:Rk)(n:Nat):Rk:={ R with ds:=R.ds++[⟨replicate n fZ,replicate n fZ,false⟩] }
theorem XR (n:Nat):(replicate n fZ).flatten=replicate (n*128) 0:=by
 induction n with
 | zero=>rfl
 | succ n ih=>rw [replicate_succ,flatten_cons,ih,fZ,replicate_append_replicate];congr 1;omega
def Dk.back (d:Dk):Dk:={ d with now:=d.bP }
def Rk.up0 (R:Rk):Rk:=⟨R.ds.map Dk.back,[],none,false⟩
theorem Rk.Ok.add {R:Rk}(h:R.Ok){n:Nat}(hn:n<=8192):(R.add n).Ok:=by
 have hz:∀s∈replicate n fZ,s.length=128:=fun s hs=>by rw [(mem_replicate.1 hs).2];rfl
 refine ⟨fun x hx => ?_,fun x hx => ?_,fun w hw => ?_⟩
 ·rcases List.mem_append.1 hx with hx | hx
  ·exact h.len x hx
  ·obtain rfl:=mem_singleton.1 hx;simp;exact hn
 ·rcases List.mem_append.1 hx with hx | hx
  ·exact h.sec x hx
  ·obtain rfl:=mem_singleton.1 hx;exact ⟨hz,hz⟩
 ·have h1:=h.ws w hw
  refine ⟨?_,h1.2⟩
  have:(R.add n).size w.d=R.size w.d:=by
   unfold Rk.size Rk.add at *
   rcases Nat.lt_or_ge w.d R.ds.length with c | c
   ·rw [getElem?_append_left c]
   ·simp [c] at h1
  rw [this];exact h1.1
end Go.Sl
namespace Go.Proofs.YtpabnmeponmonaaGreatDoor
theorem HD:Ct 14 [] [] fun u Bs=>∃p C,u=ptr p/\bj p [] ⟨[],[],none,false⟩ C/\Bs=[C]:=by
 refine st func14 fun w0 => ?_
 refine ga ?_;intro p
 refine gz ?_
 exact fin ⟨p,[(p,Lp (.slice none 0 0) none false 0 (.slice none 0 0))],rfl,⟨[],.slice none 0 0,.slice none 0 0,[],[],0,rfl,by simp,rfl,⟨by simp,by simp,by simp⟩,(fun n hn=>by cases hn),aC.nil _ _,aC.nil _ _,rfl⟩,rfl⟩ aa
theorem aaj (qs:List Nat)(q:Nat){ws:List Wt}(h:∀w∈ws,w.d<qs.length):wl (qs++[q]) ws=wl qs ws:=by
 induction ws with
 | nil=>rfl
 | cons w l ih =>
  have h1:=h w (mem_cons_self ..)
  have h2:=ih fun t ht=>h t (mem_cons_of_mem _ ht)
  simp only [wl,flatMap_cons] at h2 ⊢
  rw [h2]
  congr 1
  simp [Wt.lay,List.getD,getElem?_append_left h1]
theorem QD (p:Nat):∀ {xs:List Dq} {ds:List Dk} {x:Dq},xs.length=ds.length->x∈xs->x.q∈(mW p xs ds).map (·.1)
 | y :: xs,d :: ds,x,h,hx=>by
  rcases List.mem_cons.1 hx with rfl | hx
  ·exact mem_cons_self ..
  ·have:=QD p (xs:=xs) (ds:=ds) (by simpa using h) hx
   simp only [mW,PF];simp only [map_append,List.mem_append];exact .inr (.inr (.inr this))
theorem aak (p:Nat)(qs:List Nat)(R:Rk)(C:Chunk)(hC:bj p qs R C)(n:Nat)(hn:1<=n/\n<=8192)(yc:qs.length<=1000):Ct 15 [ptr p,.int .i64 n] [C] fun u Bs=>∃q C',u = .tuple #[ptr q,.int .i64 0]/\bj p (qs++[q]) (R.add n) C'/\Bs=[C']:=by
 obtain ⟨xs,vw,vd,Cw,Cd,z,hx,eF,hl,aO,ZK,hw,hd,rfl⟩:=hC
 have hd':=hd
 obtain ⟨Nw,dq⟩:=hn
 refine st func15 fun w0 => ?_
 refine gs ?_
 have hz:au (replicate n fZ).flatten=replicate (n*128) (.int .u8 0):=by rw [XR];simp [au]
 have kA:∀w∈R.ws,w.d<qs.length:=fun w hw=>by
  have h1:=(aO.ws w hw).1
  rcases Nat.lt_or_ge w.d R.ds.length with h2 | h2
  ·rw [<-hx,length_map,hl];exact h2
  ·simp [Rk.size,h2] at h1
 have key:∀(q g1 g2:Nat) (v2:Value) (C2:Chunk),q∉(mW p xs R.ds).map (·.1)->aC C2 56 1 v2 (qs.length+1) (qs.map ptr++[ptr q])->bj p (qs++[q]) (R.add n) ([(p,Lp vw R.left R.off z v2)]++(Cw++(C2++(mW p xs R.ds++([(q,dkO p g1 g2 n false)]++([(g1,ax (replicate (n*128) (.int .u8 0)) 5)]++[(g2,ax (replicate (n*128) (.int .u8 0)) 5)])))))):=fun q g1 g2 v2 C2 hq yq=>by
  refine ⟨xs++[⟨q,g1,g2⟩],vw,v2,Cw,C2,z,by simp [hx], ?_,by simp [Rk.add,hl],aO.add dq,ZK,by show aC _ _ _ _ R.ws.length (wl _ R.ws);rw [aaj qs q kA];exact hw,by simpa using yq, ?_⟩
  ·rw [nodup_append]
   refine ⟨eF,by simp,fun a ha b hb => ?_⟩
   obtain rfl:=mem_singleton.1 hb
   rintro rfl
   rw [<-hx] at ha
   obtain ⟨x,x8,rfl⟩:=mem_map.1 ha
   exact hq (QD p hl x8)
  ·simp only [Rk.add]
   rw [qN p _ _ hl]
   simp [mW,hz]
 refine gdo (aB.cons (0,0) (aB.cons (1,0) (aB.cons (2,0) (aB.cons (4,0) (aB.cons (5,0) (aB.fork 3 (aB.yh [(6,1),(7,0),(8,3),(9,2)]) 6 (aB.yh [(3,1),(7,0),(8,3),(9,2)]))))))) ?_
 refine gk ?_ ?_
 all_goals
  refine gm ?_;intro g1
  refine gm ?_;intro g2
  refine ga ?_;intro q
  refine gm ?_;intro b1
  refine gp ?_;intro ad2 c2 C2 yq
  refine WO.nodup fun gf => ?_
  have hq:q∉(mW p xs R.ds).map (·.1):=KQ gf (A:=[(q,_)]) (B:=mW p xs R.ds) I3 q (mem_cons_self ..)
  refine gz ?_
  exact fin ⟨q,_,rfl,key q _ _ _ C2 hq yq,rfl⟩ aa
end Go.Proofs.YtpabnmeponmonaaGreatDoor
namespace Go.Sl
def ij (n i:Nat)(s:eE):Nat->List Ev
 | 0=>gG i 0 (replicate 274 fZ)
 | 1=>gG i (n - 18) (replicate 18 fZ)
 | 2=>gG i (ez n 0) [s]
 | 3=>gG i (ez n 1) [s]
 | 4=>gG i (ez n 2) [s]
 | 5=>gG i (ez n 3) [s]
 | _=>[.f i]
def Rk.on (R:Rk):Prop:=R.left=none/\R.off=false
theorem Rk.on.ev {R:Rk}(h:R.on)(e:Ev):(R.ev e).on:=by
 obtain ⟨h1,h2⟩:=h
 cases e <;> simp [Rk.ev,h1,h2,Rk.on,Rk.put]
theorem Rk.on.run {R:Rk}(h:R.on)(l:List Ev):(R.run l).on:=by
 induction l generalizing R with
 | nil=>exact h
 | cons e l ih=>exact ih (h.ev e)
theorem XS (m:Nat):au (replicate m fZ).flatten=replicate (m*128) (.int .u8 0):=by rw [XR];simp [au]
theorem aal (R:Rk)(n i:Nat)(s:eE){k:Nat}(h:k<=7):(R.run (upto (ij n i s) k)).ws.length<=R.ws.length+2000:=by
 have h1:=Rk.eS R (upto (ij n i s) k)
 have h2:=bY (f:=ij n i s) (c:=274) (fun k=>by unfold ij;split <;> simp only [eT,length_replicate,length_cons,length_nil] <;> omega) k
 omega
end Go.Sl
namespace Go.Proofs.YtpabnmeponmonaaGreatDoor
def bxr (n:Nat):List Nat->Chunk
 | []=>[]
 | b :: l=>[(b,ax [.int .i64 (ez n l.length)] 3)]++bxr n l
abbrev fF (b2 b6 b:Nat):Value:=.func (.func 93) #[] #[ptr b2,ptr b,ptr b6]
def tF (b2 b6:Nat)(l:List Nat):List Value:=[.func (.func 89) #[] #[ptr b2],.func (.func 91) #[] #[ptr b2]]++l.reverse.map (fF b2 b6)
theorem LY (T:TypeId)(fr:Nat×Nat)(p:Nat)(qs:List Nat)(R:Rk)(C:Chunk)(hC:bj p qs R C)(i q n:Nat)(hq:qs[i]? = some q)(hl:R.live i)(db:R.on)(hn:R.size i=n)(h:324<=n/\n<=8192)
  (l:fj) (he:wm l=0) (hk:l.Ok) (hs:∀t,l.aN[l.top.toNat]? = some t->t.bE=n) (ad:Option Addr) (c:Nat) (O:Chunk) (hO:aC O 23 3 (.slice ad l.aN.length c) l.aN.length (l.aN.flatMap Tp.lay)) (hw:R.ws.length<=800000000000) :
  Ct 40 [ptr q,ns l (.slice ad l.aN.length c)] [gK T fr,C,O] fun u Bs=>∃a L C',u = .tuple #[ptr a,.int .i64 0]/\PL a q l L/\bj p qs (R.run (upto (ij n i (whole (dW l))) 7)) C'/\Bs=[L,gK T fr,C',O]:=by
 obtain ⟨hh,Cn⟩:=(iG l).1 he
 obtain ⟨m1,m2,m3,m4,m5,m6⟩:=hh
 obtain ⟨tn,Z7⟩:∃k:Nat,l.top=k:=⟨l.top.toNat,by omega⟩
 have Lb:tn<l.aN.length:=oZ
 have hts:=hs _ (by rw [Z7,Int.toNat_natCast];exact getElem?_eq_getElem Lb)
 have hx:=av Tp.ak l.aN tn _ (getElem?_eq_getElem Lb) 2 _ rfl
 rw [hts] at hx
 have fS:(whole (dW l)).length=128:=gE (by rw [jS];omega)
 obtain ⟨go_,oo,rfl⟩:=hO.rd.addr oZ
 have hOr:=hO.rd
 have hE:=G4 T fr O _ l _ rfl hOr hk he
 simp only [ns,Z7] at hE ⊢
 refine st func40 fun w0 => ?_
 refine ga ?_;intro b2
 refine ga ?_;intro b3
 refine gc hE ?_
 rintro _ _ ⟨g,rfl,rfl⟩
 refine ga ?_;intro b6
 refine gd [0,4,8,12,16,20,24,28,33,36] ?_
 refine gc (da p qs R C hC i q hq) ?_
 rintro _ _ ⟨rfl,rfl⟩
 rw [hn]
 refine gm ?_;intro b8
 have hB8:aC [(b8,ax [.func (.func 89) #[] #[ptr b2],.func (.func 91) #[] #[ptr b2]] 114)] 114 1 (.slice (some ⟨b8,0,none⟩) 2 2) 2 (tF b2 b6 []):=⟨rfl,by simp [tF,Value.oneCell'],.inr ⟨b8,2,[],rfl,rfl,by omega,by simp [maxLen],rfl⟩⟩
 refine gc (qQ p qs R C hC i q n hq hn h) ?_
 rintro _ _ ⟨rfl,rfl⟩
 refine gl [2,3,6,36] (fun ((k,_,v,_):Nat×List Nat×Value×Chunk×Chunk)=>[(37,.int .i64 k),(8,v)]) (fun (_,_,_,D,B)=>[D,B]) (fun (k,bs,v,D,B)=>k<=4/\bs.length=k/\B=bxr n bs/\aC D 114 1 v (2+k) (tF b2 b6 bs)) (fun (k,_)=>4 - k) (0,[],_,[(b8,ax [.func (.func 89) #[] #[ptr b2],.func (.func 91) #[] #[ptr b2]] 114)],[]) ⟨by omega,rfl,rfl,hB8⟩ ?_
 rintro ⟨k,bs,v,D,B⟩ ⟨nD,dP,hBx,hD⟩
 refine gi ?_ ?_ <;> intro br
 ·have Nr:k<4:=oZ
  have Gc:=AP n Nr
  refine ga ?_;intro xX
  refine gm ?_;intro b11
  refine gp ?_;intro ia c3 C3 kP
  have kP:aC C3 114 1 (.slice ia (2+k+1) c3) (2+k+1) (tF b2 b6 (xX :: bs)):=by simpa [tF] using kP
  refine gn ?_
  exact ⟨(k+1,xX :: bs,_,C3,[(xX,ax [.int .i64 (ez n k)] 3)]++B),⟨by omega,by simp [dP],by rw [hBx,bxr,dP],kP⟩,sOZ,ar,_,aa⟩
 ·obtain rfl:k=4:=oZ
  obtain ⟨x3,x2,x1,x0,rfl⟩:∃a b c d,bs=[a,b,c,d]:=by
   rcases bs with _ | ⟨x3,_ | ⟨x2,_ | ⟨x1,_ | ⟨x0,_ | ⟨y,r⟩⟩⟩⟩⟩ <;> simp at dP
   exact ⟨_,_,_,_,rfl⟩
  have hBx:B=[(x3,ax [.int .i64 (ez n 3)] 3)]++([(x2,ax [.int .i64 (ez n 2)] 3)]++([(x1,ax [.int .i64 (ez n 1)] 3)]++([(x0,ax [.int .i64 (ez n 0)] 3)]++[]))):=hBx
  subst hBx
  refine gs ?_
  refine gm ?_;intro b11
  refine gp ?_;intro ia c3 C3 kP
  have kP:aC C3 114 1 (.slice ia 7 c3) 7 [.func (.func 89) #[] #[ptr b2],.func (.func 91) #[] #[ptr b2],fF b2 b6 x0,fF b2 b6 x1,fF b2 b6 x2,fF b2 b6 x3,.func (.func 94) #[ptr q] #[]]:=kP
  obtain ⟨gs',os',rfl⟩:=kP.rd.addr oZ
  have Gf:=kP.rd
  obtain ⟨s,Lo⟩:∃s,s=whole (dW l):=⟨_,rfl⟩
  rw [<-Lo] at fS ⊢
  have hg:Rd [(g,ax (au s) 5)] 1 (.slice (some ⟨g,0,none⟩) (1*128) 128) (1*128) (au ([s]:List eE).flatten):=by
   rw [show ([s]:List eE).flatten=s by simp];exact ay (by rw [aq,fS]) (aP _) oZ _
  obtain ⟨Q,hQ⟩:∃Q:Nat->Rk,Q=fun k=>R.run (upto (ij n i s) k):=⟨_,rfl⟩
  have q0:Q 0=R:=by rw [hQ];rfl
  have qs1:∀k,Q (k+1)=(Q k).run (ij n i s k):=fun k=>by rw [hQ];exact ea ..
  have qw:∀k,k<=7->(Q k).ws.length<=R.ws.length+2000:=fun k hk=>by rw [hQ];exact aal R n i s hk
  have ql:∀k,(Q k).live i:=fun k=>by rw [hQ];exact (Rk.di _ _ _).2 hl
  have qn:∀k,(Q k).size i=n:=fun k=>by rw [hQ];exact (Rk.bH _ _ _).trans hn
  have qo:∀k,(Q k).off=false:=fun k=>by rw [hQ];exact (db.run _).2
  rw [show R.run (upto (ij n i s) 7)=Q 7 by rw [hQ]]
  rw [<-q0] at hC
  clear hQ q0
  have q00:Q 1=(Q 0).run (gG i 0 (replicate 274 fZ)):=qs1 0
  have q01:Q 2=(Q 1).run (gG i (n - 18) (replicate 18 fZ)):=qs1 1
  have q06:Q 7=(Q 6).ev (.f i):=qs1 6
  have mX:∀(k:Nat) (C:Chunk),k<4->bj p qs ((Q (k+2))) C->Ct 90 [ptr q,.int .i64 (ez n k),.slice (some ⟨g,0,none⟩) (1*128) 128] [C,[(g,ax (au s) 5)]] fun u Bs=>∃C',u = .int .i64 0/\bj p qs ((Q (k+3))) C'/\Bs=[C',[(g,ax (au s) 5)]]:=fun k C hk hC=>by
   have mU:=AO (k:=k) h.1
   have NV:=qw (k+2) oZ
   have:=ln p qs _ C hC i q (ez n k) 1 [s] [(g,ax (au s) 5)] (some ⟨g,0,none⟩) 128 hq (ql _) (by simp [fS]) rfl (by rw [qn];omega) hg oZ oZ
   have hf:ij n i s (k+2)=gG i (ez n k) [s]:=by rcases (show k=0\/k=1\/k=2\/k=3 by omega) with rfl | rfl | rfl | rfl <;> rfl
   rw [<-hf,<-qs1,qo] at this
   exact this
  refine gl [2,3,50,51] (fun ((k,_):Nat×Chunk)=>[(52,.int .i64 k)]) (fun (_,C)=>[C]) (fun (k,C)=>k<=7/\bj p qs (Q k) C) (fun (k,_)=>7 - k) (0,C) ⟨by omega,hC⟩ ?_
  rintro ⟨k,C⟩ ⟨hk7,hC⟩
  refine gi ?_ ?_ <;> intro br
  ·have NV:=qw k hk7
   have iy:=ql k
   have aO:=qo (k+1)
   have EU:∀C',bj p qs (Q (k+1)) C'->k+1<=7/\bj p qs (Q (k+1)) C':=fun C' bF=>⟨by omega,bF⟩
   rcases (show k=0\/k=1\/k=2\/k=3\/k=4\/k=5\/k=6 by omega) with rfl | rfl | rfl | rfl | rfl | rfl | rfl
   ·refine ge ?_
    refine gd [0,5,11,14] ?_
    refine gm ?_;intro LZ
    have hz:Rd [(LZ,ax (replicate 35072 (.int .u8 0)) 5)] 1 (.slice (some ⟨LZ,0,none⟩) (274*128) 35072) (274*128) (au (replicate 274 fZ).flatten):=by
     rw [XS];exact ay (by rw [length_replicate]) (fun u hu=>by rw [(mem_replicate.1 hu).2];rfl) oZ _
    refine gc (ln p qs _ C hC i q 0 274 (replicate 274 fZ) _ _ 35072 hq iy (fun s hs=>by rw [(mem_replicate.1 hs).2];rfl) length_replicate (by rw [qn];omega) hz oZ oZ) ?_
    rintro _ _ ⟨C',rfl,bF,rfl⟩
    rw [<-q00] at bF ⊢
    rw [qo]
    refine gn ?_
    exact ⟨(1,C'),EU C' bF,sOZ,ar,_,aa⟩
   ·refine ge ?_
    refine gdo (aB.cons (0,0) (aB.cons (1,0) (aB.fork 2 (aB.yh [(3,0),(4,1),(5,3),(6,2)]) 4 (aB.yh [(2,1),(3,0),(5,3),(6,2)])))) ?_
    have ZT:∀LZ,Ct 90 [ptr q,.int .i64 ((n - 18:Nat):Int),.slice (some ⟨LZ,0,none⟩) (18*128) 2304] [C,[(LZ,ax (replicate 2304 (.int .u8 0)) 5)]] fun u Bs=>∃C',u = .int .i64 0/\bj p qs (Q 2) C'/\Bs=[C',[(LZ,ax (replicate 2304 (.int .u8 0)) 5)]]:=fun LZ=>by
     have hz:Rd [(LZ,ax (replicate 2304 (.int .u8 0)) 5)] 1 (.slice (some ⟨LZ,0,none⟩) (18*128) 2304) (18*128) (au (replicate 18 fZ).flatten):=by
      rw [XS];exact ay (by rw [length_replicate]) (fun u hu=>by rw [(mem_replicate.1 hu).2];rfl) oZ _
     have:=ln p qs _ C hC i q (n - 18) 18 (replicate 18 fZ) _ _ 2304 hq iy (fun s hs=>by rw [(mem_replicate.1 hs).2];rfl) length_replicate (by rw [qn];omega) hz oZ oZ
     rw [<-q01,qo] at this
     exact this
    refine gk ?_ ?_
    ·refine gc (da p qs _ C hC i q hq) ?_
     rintro _ _ ⟨rfl,rfl⟩
     rw [qn]
     refine gm ?_;intro LZ
     refine gc (ZT LZ) ?_
     rintro _ _ ⟨C',rfl,bF,rfl⟩
     refine gn ?_
     exact ⟨(2,C'),EU C' bF,sOZ,ar,_,aa⟩
    ·refine gm ?_;intro LZ
     refine gc (da p qs _ C hC i q hq) ?_
     rintro _ _ ⟨rfl,rfl⟩
     rw [qn]
     refine gc (ZT LZ) ?_
     rintro _ _ ⟨C',rfl,bF,rfl⟩
     refine gn ?_
     exact ⟨(2,C'),EU C' bF,sOZ,ar,_,aa⟩
   ·refine ge ?_
    refine gc (mX 0 C oZ hC) ?_
    rintro _ _ ⟨C',rfl,bF,rfl⟩
    refine gn ?_
    exact ⟨(3,C'),EU C' bF,sOZ,ar,_,aa⟩
   ·refine ge ?_
    refine gc (mX 1 C oZ hC) ?_
    rintro _ _ ⟨C',rfl,bF,rfl⟩
    refine gn ?_
    exact ⟨(4,C'),EU C' bF,sOZ,ar,_,aa⟩
   ·refine ge ?_
    refine gc (mX 2 C oZ hC) ?_
    rintro _ _ ⟨C',rfl,bF,rfl⟩
    refine gn ?_
    exact ⟨(5,C'),EU C' bF,sOZ,ar,_,aa⟩
   ·refine ge ?_
    refine gc (mX 3 C oZ hC) ?_
    rintro _ _ ⟨C',rfl,bF,rfl⟩
    refine gn ?_
    exact ⟨(6,C'),EU C' bF,sOZ,ar,_,aa⟩
   ·refine gc (Em p qs _ C hC i q hq iy) ?_
    rintro _ _ ⟨C',rfl,bF,rfl⟩
    rw [<-q06] at bF ⊢
    rw [qo]
    refine gn ?_
    exact ⟨(7,C'),EU C' bF,sOZ,ar,_,aa⟩
  ·obtain rfl:k=7:=oZ
   refine gc (ma O _ _ c _ hO ⟨by omega,by omega⟩) ?_
   rintro _ _ ⟨bz,c',D',rfl,eJ,rfl⟩
   refine ga ?_;intro a
   refine gz ?_
   exact fin ⟨a,[(a,XB q l (.slice bz l.aN.length c') 0 0 0)]++D',_,rfl,⟨_,c',D',0,0,0,eJ,rfl⟩,hC,rfl⟩ (by simp only [XB,Z7];exact aa)
theorem bj.nodup {p:Nat}{qs:List Nat}{R:Rk}{C:Chunk}(h:bj p qs R C):qs.Nodup:=by obtain ⟨xs,vw,vd,Cw,Cd,z, -,h, -⟩:=h;exact h
theorem bj.pb {p:Nat}{qs:List Nat}{R:Rk}{C:Chunk}(h:bj p qs R C){i j:Nat}(hi:i∈qs)(hj:j∈qs):PB C i j:=by
 obtain ⟨xs,vw,vd,Cw,Cd,z,rfl, -,hl, -, -, -, -,rfl⟩:=h
 have hb:∀q,q∈xs.map (·.q)->KP ([(p,Lp vw R.left R.off z vd)]++(Cw++(Cd++mW p xs R.ds))) q:=fun q hq=>by
  obtain ⟨x,hx,rfl⟩:=mem_map.1 hq
  obtain ⟨l,T,h⟩:=uy p hl hx
  exact ⟨l,T,mem_append_right _ (mem_append_right _ (mem_append_right _ h))⟩
 exact .inr ⟨hb i hi,hb j hj⟩
theorem EV (p:Nat)(qs:List Nat)(R:Rk)(C:Chunk)(hC:bj p qs R C)(k q:Nat)(hk:qs[k]? = some q)(Q:Chunk)(ad:Option Addr)(m c:Nat)(hm:m<=1000)(hQ:Rd Q 1 (.slice ad m c) m ((qs.drop (k+1)).map ptr)) :
  Ct 38 [.slice ad m c,ptr q] [C,Q] fun u Bs=>u = .bool false/\Bs=[C,Q]:=by
 have hl:(qs.drop (k+1)).length=m:=by have:=hQ.1;simpa using this
 refine st func38 fun w0 => ?_
 refine ge ?_
 refine gl [0,1,6,7] (fun j:Nat=>[(8,.int .i64 j)]) (fun _=>[]) (fun j=>j<=m) (fun j=>m - j) 0 oZ ?_
 intro j hj
 refine gi ?_ ?_ <;> intro br
 ·obtain ⟨x,hx⟩:=eC (l:=qs.drop (k+1)) (i:=j) oZ
  have bX:((qs.drop (k+1)).map ptr)[j]? = some (ptr x):=by rw [getElem?_map,hx];rfl
  have Gj:qs[k+1+j]? = some x:=by rw [getElem?_drop] at hx;exact hx
  have hpb:=hC.pb (mem_of_getElem? hk) (mem_of_getElem? Gj)
  have ey:q≠x:=fun h=>by
   subst h
   have:=hC.nodup
   obtain ⟨h1,e1⟩:=List.getElem?_eq_some_iff.1 hk
   obtain ⟨h2,e2⟩:=List.getElem?_eq_some_iff.1 Gj
   have:=(getElem_inj this).1 (e1.trans e2.symm)
   omega
  obtain ⟨g,off,rfl⟩:=hQ.addr oZ
  refine gn ?_
  exact ⟨j+1,by omega,by omega,ar,_,aa⟩
 ·refine gz ?_
  exact fin ⟨rfl,rfl⟩ aa
end Go.Proofs.YtpabnmeponmonaaGreatDoor
namespace Go.Sl
theorem oc {α:Type}{A:List α}{z v:α}{w j:Nat}(hA:A.length=j)(hj:j<w):(A++replicate (w - j) z).set j v=(A++[v])++replicate (w - (j+1)) z:=by
 obtain ⟨r,hr⟩:∃r,w - j=r+1:=⟨w - j - 1,by omega⟩
 rw [hr,show w - (j+1)=r by omega,replicate_succ]
 subst hA
 simp
def rW (n:Nat)(lb:Nat->fj)(k:Nat):List Ev:=upto (ij n k (whole (dW (lb k)))) 7
def j0 (qs:List Nat)(ls:List (Option Lv)):Prop:=∀k,k<ls.length->∃a q,qs[k]? = some q/\ls[k]? = some (some ⟨a,k,q⟩)
theorem j0.snoc {qs:List Nat}{ls:List (Option Lv)}(h:j0 qs ls){a q:Nat}(hq:qs[ls.length]? = some q):j0 qs (ls++[some (⟨a,ls.length,q⟩:Lv)]):=fun k hk=>by
 rw [length_append] at hk
 rcases (show k<ls.length\/k=ls.length by simp at hk;omega) with c | rfl
 ·obtain ⟨a',q',h1,h2⟩:=h k c
  exact ⟨a',q',h1,by rw [getElem?_append_left c];exact h2⟩
 ·exact ⟨a,q,hq,by simp⟩
theorem j0.all {qs:List Nat}{ls:List (Option Lv)}(h:j0 qs ls):∀x∈ls,x≠none:=fun x hx=>by
 obtain ⟨k,hk⟩:=mem_iff_getElem?.1 hx
 obtain ⟨a,q, -,h2⟩:=h k (List.getElem?_eq_some_iff.1 hk).1
 rw [hk] at h2;cases h2;simp
theorem j0.ok {qs:List Nat}{ls:List (Option Lv)}(h:j0 qs ls){R:Rk}{n:Nat}(hl:∀k,k<ls.length->R.live k/\R.size k=n):dE qs R n ls:=fun x hx=>by
 obtain ⟨k,hk⟩:=mem_iff_getElem?.1 hx
 have kI:=(List.getElem?_eq_some_iff.1 hk).1
 obtain ⟨a,q,h1,h2⟩:=h k kI
 rw [hk] at h2;cases h2
 exact ⟨h1,hl k kI⟩
end Go.Sl
namespace Go.Proofs.YtpabnmeponmonaaGreatDoor
theorem iR.snoc {mk:Nat->fj}{x:Lv}{L1:Chunk}:∀ {ls:List (Option Lv)} {k0:Nat} {L:Chunk},iR mk k0 ls L->PL x.a x.q (mk (k0+ls.length)) L1->iR mk k0 (ls++[some x]) (L++L1)
 | [],k0,L,h,h1=>by
  obtain rfl:L=[]:=h
  exact ⟨L1,[],h1,rfl,by simp⟩
 | none :: ls,k0,L,h,h1=>iR.snoc (ls:=ls) (k0:=k0+1) (L:=L) h (by rw [show k0+1+ls.length=k0+(none :: ls).length by simp only [length_cons];omega];exact h1)
 | some y :: ls,k0,L,⟨A,B,h2,h3,h4⟩,h1=>by
  refine ⟨A,B++L1,h2,iR.snoc (ls:=ls) (k0:=k0+1) (L:=B) h3 (by rw [show k0+1+ls.length=k0+(some y :: ls).length by simp only [length_cons];omega];exact h1),by rw [h4,append_assoc]⟩
theorem L7 (T:TypeId)(fr:Nat×Nat)(p:Nat)(qs:List Nat)(pool:Nat)(tp:Tp)(pr:Bool)(n w:Nat)(ok:dj tp pr n w)(hqs:qs.length=w)(R:Rk)(C:Chunk)(hC:bj p qs R C)(db:R.on)(xg:∀k,k<w->R.live k/\R.size k=n)
  (Lq:∀k,k<w->wm ⟨pool,[tp],0,k⟩=0/\fj.Ok ⟨pool,[tp],0,k⟩) (hw0:R.ws.length<=700000000000) (O:Chunk) (Jw:Option Addr) (co:Nat) (hO:aC O 23 3 (.slice Jw 1 co) 1 tp.lay) (Q:Chunk) (j7:Option Addr) (cq:Nat) (hQ:Rd Q 1 (.slice j7 w cq) w (qs.map ptr)) (hcq:w<=cq) :
  Ct 16 [.int .u64 pool,.slice Jw 1 co,.slice j7 w cq] [gK T fr,C,O,Q] fun u Bs=>∃t V ls C',u = .tuple #[ptr t,.int .i64 0]/\ls.length=w/\j0 qs ls/\iZ t pool tp pr n ls 1 V/\bj p qs (R.run (upto (rW n fun k=>⟨pool,[tp],0,k⟩) w)) C'/\Bs=[V,gK T fr,C',O,Q]:=by
 have hn:=ok.hn
 have kA:=ok.hw
 have htp:=ok.ht
 have aam:tp.leaves=w:=by rw [htp]
 have l8:tp.bE=n:=by rw [htp]
 refine st func16 fun w0 => ?_
 refine gc (ma O Jw 1 co _ hO oZ) ?_
 rintro _ _ ⟨jj,cT,DT,rfl,hT,rfl⟩
 refine ga ?_;intro t
 refine gc (zq t pool jj 1 cT _ _ _ _ 0 0) ?_
 rintro _ _ ⟨rfl,rfl⟩
 have Ee:=sE DT (.slice jj 1 cT) ⟨pool,[tp],0,0⟩ 1 rfl (by simpa using hT.rd)
 rw [show wm ⟨pool,[tp],0,0⟩=0 from (Lq 0 oZ).1] at Ee
 refine gc Ee ?_
 rintro _ _ ⟨rfl,rfl⟩
 refine gc (zr t pool tp w ⟨aam,kA.2⟩ jj cT DT hT _ 1) ?_
 rintro _ _ ⟨kB,cL,DL,mC,Cy,cD,DD,oR,ES,NC,rfl⟩
 have hTr:=hT.rd
 obtain ⟨gT,oT,rfl⟩:=hTr.addr oZ
 have jW:=NC.rd
 obtain ⟨gD,oD,rfl⟩:=jW.addr oZ
 have JJ:=ES.rd
 obtain ⟨gL,oL,rfl⟩:=JJ.addr oZ
 have hsT:Sub (0*3) tp.lay tp.lay:=av Tp.ak [tp] 0 tp rfl
 have hcD:[Value.slice (some ⟨oR,0,none⟩) w w][0]? = some (.slice (some ⟨oR,0,none⟩) w w):=rfl
 have hcL:[Value.slice (some ⟨mC,0,none⟩) w w][0]? = some (.slice (some ⟨mC,0,none⟩) w w):=rfl
 rw [show replicate w (Value.pointer none)=((qs.take 0).map ptr)++replicate (w - 0) (Value.pointer none) by simp]
 refine gl [6,7,8,35,36] (fun ((j,d,ad,c):Nat×Nat×Option Addr×Nat)=>[(37,.int .i64 j),(9,.slice ad (w - d) c)]) (fun (_,d,_)=>[[(oR,ax (((qs.take d).map ptr)++replicate (w - d) (.pointer none)) 56)]]) (fun (j,d,ad,c)=>j<=1/\d=j*w/\w - d<=c/\Rd Q 1 (.slice ad (w - d) c) (w - d) ((qs.drop d).map ptr)) (fun (j,_)=>1 - j) (0,0,j7,cq) ⟨by omega,by omega,by omega,by rw [drop_zero];exact hQ⟩ ?_
 rintro ⟨j,d,ad,c⟩ ⟨hj,hd,hc,hQ⟩
 refine gi ?_ ?_ <;> intro br
 ·obtain rfl:j=0:=oZ
  rw [Nat.zero_mul] at hd
  refine ga ?_;intro b11
  refine gl [6,7,8,10,11,35,36,37,43] (fun ((d,ad,c):Nat×Option Addr×Nat)=>[(44,.int .i64 d),(9,.slice ad (w - d) c)]) (fun (d,_)=>[[(oR,ax (((qs.take d).map ptr)++replicate (w - d) (.pointer none)) 56)]]) (fun (d,ad,c)=>d<=w/\w - d<=c/\Rd Q 1 (.slice ad (w - d) c) (w - d) ((qs.drop d).map ptr)) (fun (d,_)=>w - d) (d,ad,c) ⟨by omega,hc,hQ⟩ ?_
  rintro ⟨d,ad,c⟩ ⟨hdw,hc,hQ⟩
  refine gi ?_ ?_ <;> intro qI
  ·obtain ⟨q,hq⟩:=eC (l:=qs) (i:=d) oZ
   obtain ⟨gq,oq,rfl⟩:=hQ.addr oZ
   have QB:((qs.drop d).map ptr)[0]? = some (ptr q):=by rw [getElem?_map,getElem?_drop,Nat.add_zero,hq];rfl
   have Nw:w - d - 1=w - (d+1):=oZ
   have qc:(((qs.drop d).map ptr).drop (1*1)).take ((w - d - 1)*1)=(qs.drop (d+1)).map ptr:=by
    rw [Nat.mul_one,Nat.mul_one,<-map_drop,drop_drop,take_of_length_le (by rw [length_map,length_drop];omega)]
   have eQ:(((qs.take d).map ptr)++replicate (w - d) (Value.pointer none)).set d (ptr q)=((qs.take (d+1)).map ptr)++replicate (w - (d+1)) (.pointer none):=by
    obtain ⟨jQ,he⟩:=List.getElem?_eq_some_iff.1 hq
    rw [oc (by rw [length_map,length_take];omega) oZ,take_succ_eq_append_getElem jQ,he,map_append];rfl
   have agu:(((qs.take d).map ptr)++replicate (w - d) (Value.pointer none)).length=w:=by rw [length_append,length_map,length_take,length_replicate];omega
   have bu:=(xg d oZ).2
   refine gd [0,4,8,12,16,20,24,28,32,36,40,44,48,52,56,61,64,68,72,76,80,88,92,85,96,100] ?_
   refine gw ?_;intro ia hQ3
   refine gc (EV p qs R C hC d q hq Q _ _ _ oZ hQ3) ?_
   rintro _ _ ⟨rfl,rfl⟩
   refine gc (da p qs R C hC d q hq) ?_
   rintro _ _ ⟨rfl,rfl⟩
   rw [bu]
   refine gd [0,4,8,12,16,20,24,28,32,36,40,46,50,52,59,62] ?_
   refine gw ?_;intro sF hQ5
   refine gn ?_
   rw [eQ]
   exact ⟨(d+1,sF,c - 1),⟨by omega,by omega,hQ5⟩,sOZ,ar,_,aa⟩
  ·obtain rfl:d=w:=oZ
   refine gn ?_
   exact ⟨(1,d,ad,c),⟨by omega,by omega,hc,hQ⟩,sOZ,ar,_,aa⟩
 ·obtain rfl:j=1:=oZ
  rw [Nat.one_mul] at hd
  subst hd
  rw [show (qs.take d).map ptr++replicate (d - d) (Value.pointer none)=qs.map ptr by rw [Nat.sub_self,replicate_zero,append_nil,take_of_length_le oZ]]
  obtain ⟨mk,Bh⟩:∃mk:Nat->fj,mk=fun k=>⟨pool,[tp],0,(k:Nat)⟩:=⟨_,rfl⟩
  rw [<-Bh]
  rw [show List.map ptr (List.take 0 qs)++replicate (d - 0) (Value.pointer none)=(([]:List (Option Lv)).map iQ)++replicate (d - ([]:List (Option Lv)).length) (Value.pointer none) by simp]
  refine gl [6,7,8,95,96] (fun ((j,_):Nat×List (Option Lv)×Chunk×Chunk)=>[(97,.int .i64 j)]) (fun (_,ls,C,L)=>[[(mC,ax ((ls.map iQ)++replicate (d - ls.length) (.pointer none)) 110)],C,L]) (fun (j,ls,C,L)=>j<=1/\ls.length=j*d/\j0 qs ls/\iR mk 0 ls L/\bj p qs (R.run (upto (rW n mk) ls.length)) C) (fun (j,_)=>1 - j) (0,[],C,[]) ⟨by omega,by simp,(fun k hk=>absurd hk (by simp)),rfl,hC⟩ ?_
  rintro ⟨j,ls,C,L⟩ ⟨hj,jL,JK,hL,hC⟩
  refine gi ?_ ?_ <;> intro br
  ·obtain rfl:j=0:=oZ
   rw [Nat.zero_mul] at jL
   refine gl [6,7,8,13,95,96,97,102,103] (fun ((j,_):Nat×List (Option Lv)×Chunk×Chunk)=>[(104,.int .i64 j)]) (fun (_,ls,C,L)=>[[(mC,ax ((ls.map iQ)++replicate (d - ls.length) (.pointer none)) 110)],C,L]) (fun (j,ls,C,L)=>j<=d/\ls.length=j/\j0 qs ls/\iR mk 0 ls L/\bj p qs (R.run (upto (rW n mk) ls.length)) C) (fun (j,_)=>d - j) (0,ls,C,L) ⟨by omega,jL,JK,hL,hC⟩ ?_
   rintro ⟨j,ls,C,L⟩ ⟨hj,jL,JK,hL,hC⟩
   refine gi ?_ ?_ <;> intro qI
   ·obtain ⟨q,hq⟩:=eC (l:=qs) (i:=j) oZ
    obtain ⟨uk,jK⟩:=xg j oZ
    have ND:mk j=⟨pool,[tp],0,(j:Nat)⟩:=by rw [Bh]
    have ag0:=Rk.eS R (upto (rW n mk) ls.length)
    have Uz:(R.run (upto (rW n mk) ls.length)).ws.length<=R.ws.length+ls.length*2000:=by
     have h1:=bY (f:=rW n mk) (c:=2000) (fun k=>by
      have:=bY (f:=ij n k (whole (dW (mk k)))) (c:=274) (fun k=>by unfold ij;split <;> simp only [eT,length_replicate,length_cons,length_nil] <;> omega) 7
      unfold rW;omega) ls.length
     omega
    have NF:=LY T fr p qs _ C hC j q n hq ((Rk.di ..).2 uk) (db.run _) (by rw [Rk.bH,jK]) hn (mk j) (by rw [ND];exact (Lq j oZ).1) (by rw [ND];exact (Lq j oZ).2)
     (fun t ht=>by rw [ND] at ht;simp at ht;rw [<-ht];exact l8) (some ⟨gT,oT,none⟩) cT DT (by rw [ND];simpa using hT) oZ
    have hlg:ns (mk j) (.slice (some ⟨gT,oT,none⟩) (mk j).aN.length cT) = .agg #[.int .u64 pool,.slice (some ⟨gT,oT,none⟩) 1 cT,.int .i64 0,.int .i64 j]:=by rw [ND];rfl
    rw [hlg] at NF
    have dQ:(R.run (upto (rW n mk) ls.length)).run (upto (ij n j (whole (dW (mk j)))) 7)=R.run (upto (rW n mk) (ls.length+1)):=by rw [ea R (rW n mk) ls.length,jL];rfl
    rw [dQ] at NF
    refine gc (zq t pool (some ⟨gT,oT,none⟩) 1 cT _ _ _ _ 0 j) ?_
    rintro _ _ ⟨rfl,rfl⟩
    refine gc NF ?_
    rintro _ _ ⟨a,L1,C',rfl,hL1,bF,rfl⟩
    have eQ:(ls.map iQ++replicate (d - ls.length) (Value.pointer none)).set j (ptr a)=(ls++[some (⟨a,ls.length,q⟩:Lv)]).map iQ++replicate (d - (ls++[some (⟨a,ls.length,q⟩:Lv)]).length) (.pointer none):=by
     rw [length_append,map_append,jL,oc (by rw [length_map,jL]) oZ];rfl
    have hlen:(ls.map iQ++replicate (d - ls.length) (Value.pointer none)).length=d:=by rw [length_append,length_map,length_replicate];omega
    refine gn ?_
    rw [eQ]
    exact ⟨(j+1,ls++[some (⟨a,ls.length,q⟩:Lv)],C',L++L1),⟨by omega,by rw [length_append,jL];rfl,JK.snoc (by rw [jL];exact hq),hL.snoc (by rw [Nat.zero_add,jL];exact hL1),by rw [length_append];exact bF⟩,sOZ,ar,_,aa⟩
   ·obtain rfl:j=d:=oZ
    refine gn ?_
    exact ⟨(1,ls,C,L),⟨by omega,by omega,JK,hL,hC⟩,sOZ,ar,_,aa⟩
  ·obtain rfl:j=1:=oZ
   rw [Nat.one_mul] at jL
   have hall:=JK.all
   have zt:aC [(mC,ax ((ls.map iQ)++replicate (d - ls.length) (.pointer none)) 110)] 110 1 (.slice (some ⟨mC,0,none⟩) ls.length d) ls.length (ls.map iQ):=⟨by simp,fun u hu=>by
    obtain ⟨o,_,rfl⟩:=mem_map.1 hu
    rcases o with _ | x <;> rfl,.inr ⟨mC,d,replicate (d - ls.length) (.pointer none),rfl,rfl,by omega,by simp only [maxLen];omega,by rw [length_map,length_replicate];omega⟩⟩
   have afd:aC DL 113 1 (.slice (some ⟨gL,oL,none⟩) 1 cL) 1 [.slice (some ⟨mC,0,none⟩) ls.length d]:=by rw [jL];exact ES
   have iy:=JK.ok (R:=R.run (upto (rW n mk) ls.length)) (n:=n) fun k hk=>⟨(Rk.di ..).2 (xg k oZ).1,by rw [Rk.bH];exact (xg k oZ).2⟩
   rw [Bh] at hL
   have Nl:=ET p qs t pool tp pr n ls (by rw [jL];exact ok) hall _ C L hC iy hL _ cT DT hT _ cL DL _ d _ afd zt (.slice (some ⟨gD,oD,none⟩) 1 cD) (DD++[(oR,ax (qs.map ptr) 56)]) 1
   refine gc Nl ?_
   rintro _ _ ⟨rfl,V,hV,rfl⟩
   refine gz ?_
   rw [jL] at hC
   exact fin ⟨t,V,ls,C,rfl,jL,JK,hV,hC,rfl⟩ aa
end Go.Proofs.YtpabnmeponmonaaGreatDoor
namespace Go.Sl
def Cz (n:Nat)(ls:List (Option Lv))(x:Ub)(k:Nat):List Ev:=match ls[k]? with
 | some (some y)=>upto (ji n y.i x) 4
 | _=>[]
def eA (n:Nat)(ls:List (Option Lv))(x:Ub):List Ev:=upto (Cz n ls x) ls.length
end Go.Sl
namespace Go.Proofs.YtpabnmeponmonaaGreatDoor
section
variable (T:TypeId)(fr:Nat×Nat)(p:Nat)(qs:List Nat)(t pool:Nat)(tp:Tp)(pr:Bool)(n:Nat)(ls:List (Option Lv))(no:Nat)(V:Chunk)(hV:iZ t pool tp pr n ls no V)(ok:dj tp pr n ls.length)
include hV ok
theorem Bi (R:Rk)(C:Chunk)(hC:bj p qs R C)(ho:dE qs R n ls)(hall:∀x∈ls,x≠none)(x:Ub)(hx:wq x=0)(Cq:x.Ok)(hp:x.pool=pool)(hw:R.ws.length+40<=900000000000) :
  Ct 111 [ptr t,x.agg] [gK T fr,C,V] fun u Bs=>∃C',u = .int .i64 (if (R.run (eA n ls x)).off then 5 else 0)/\bj p qs (R.run (eA n ls x)) C'/\Bs=[gK T fr,C',V]:=by
 obtain ⟨m,M,jj,cT,DT,eb,cI,DI,kB,cL,DL,pO,cl,Dl,vD,DD,L,hT,hI,xW,hl,hM,hL,rfl⟩:=hV
 have Qb:=hI.rd
 obtain ⟨gI,oI,rfl⟩:=Qb.addr oZ
 have JJ:=xW.rd
 obtain ⟨gL,oL,rfl⟩:=JJ.addr oZ
 have hn:=ok.hn
 have kA:=ok.hw
 have yn:=hl.rd
 obtain ⟨mC,ol,rfl⟩:=yn.addr oZ
 have rS:[Value.slice (some ⟨mC,ol,none⟩) ls.length cl][0]? = some (.slice (some ⟨mC,ol,none⟩) ls.length cl):=rfl
 have Bh:∀k,(Cz n ls x k).length<=4:=fun k=>by
  unfold Cz
  split
  ·rename_i y hy
   have:=bY (f:=ji n y.i x) (c:=1) (fun k=>by unfold ji;rw [eT];simp) 4
   omega
  ·simp
 refine st func111 fun w0 => ?_
 refine gs ?_
 refine ga ?_;intro b3
 refine gc (sH x hx) ?_
 rintro _ _ ⟨rfl,rfl⟩
 refine gl [0,3,6,29,30] (fun ((j,_):Nat×Chunk)=>[(31,.int .i64 j)]) (fun (_,C)=>[C]) (fun (j,C)=>j<=1/\(j=0->bj p qs R C)/\(j=1->bj p qs (R.run (eA n ls x)) C/\(R.run (eA n ls x)).off=false)) (fun (j,_)=>1 - j) (0,C) ⟨by omega,(fun _=>hC),(fun h=>absurd h oZ)⟩ ?_
 rintro ⟨j,C⟩ ⟨hj,Uo,pF⟩
 refine gi ?_ ?_ <;> intro br
 ·obtain rfl:j=0:=oZ
  have hC:=Uo rfl
  refine gl [0,3,6,7,29,30,31,36,37] (fun ((j,t9,_):Nat×Bool×Chunk)=>[(38,.int .i64 j),(9,.bool t9)]) (fun (_,_,C)=>[C]) (fun (j,t9,C)=>j<=ls.length/\t9=decide (0<j)/\bj p qs (R.run (upto (Cz n ls x) j)) C/\(0<j->(R.run (upto (Cz n ls x) j)).off=false)) (fun (j,_)=>ls.length - j) (0,false,C) ⟨by omega,rfl,hC,(fun h=>absurd h oZ)⟩ ?_
  rintro ⟨j,t9,C⟩ ⟨hj,rfl,hC,jx⟩
  refine gi ?_ ?_ <;> intro qI
  ·obtain ⟨oy,hy⟩:=eC (l:=ls) (i:=j) oZ
   rcases oy with _ | y
   ·exact absurd rfl (hall _ (mem_of_getElem? hy))
   obtain ⟨o1,o2,o3⟩:=ho.run (upto (Cz n ls x) j) y (mem_of_getElem? hy)
   have ag1:(ls.map iQ)[j]? = some (ptr y.a):=by rw [getElem?_map,hy];rfl
   obtain ⟨A,L1,B,qS,rfl⟩:=hL.at hy
   have sM:=Rk.eS R (upto (Cz n ls x) j)
   have Ao:=bY Bh j
   have ya:Cz n ls x j=upto (ji n y.i x) 4:=by unfold Cz;rw [hy]
   have XL:=ZP T fr p qs _ C hC y.i y.q n y.a _ L1 qS o1 o2 o3 hn x hx Cq hp oZ
   rw [<-ya,<-ea] at XL
   refine gs ?_
   cases pr
   ·have bX:[JA false m][0]? = some (.iface 191 (ptr m)):=rfl
    refine gj (P6 m n ls _ hn kA.2 M hM j oZ) ?_
    rintro _ _ ⟨⟨a,b,rfl, -⟩,rfl⟩
    rw [show ((replicate ls.length (none:Option (Nat×Nat))).getD j none).isSome=false by simp [List.getD,getElem?_replicate];split <;> rfl]
    refine ga ?_;intro Td
    refine gc XL ?_
    rintro _ _ ⟨C',rfl,bF,rfl⟩
    cases dS:(R.run (upto (Cz n ls x) (j+1))).off with
    | true =>
     refine gz ?_
     have e:R.run (eA n ls x)=R.run (upto (Cz n ls x) (j+1)):=jX dS (by omega:j+1<=ls.length)
     rw [e,dS]
     exact fin ⟨C',rfl,bF,rfl⟩ aa
    | false =>
     refine gn ?_
     exact ⟨(j+1,true,C'),⟨by omega,by simp,bF,fun _=>dS⟩,sOZ,ar,_,aa⟩
   ·have bX:[JA true m][0]? = some (.iface 187 (ptr m)):=rfl
    refine gj (P4 m n ls hn ⟨ok.hp rfl,kA.2⟩ M hM j oZ) ?_
    rintro _ _ ⟨rfl,rfl⟩
    refine ga ?_;intro Td
    refine gc XL ?_
    rintro _ _ ⟨C',rfl,bF,rfl⟩
    cases dS:(R.run (upto (Cz n ls x) (j+1))).off with
    | true =>
     refine gz ?_
     have e:R.run (eA n ls x)=R.run (upto (Cz n ls x) (j+1)):=jX dS (by omega:j+1<=ls.length)
     rw [e,dS]
     exact fin ⟨C',rfl,bF,rfl⟩ aa
    | false =>
     refine gn ?_
     exact ⟨(j+1,true,C'),⟨by omega,by simp,bF,fun _=>dS⟩,sOZ,ar,_,aa⟩
  ·obtain rfl:j=ls.length:=oZ
   rw [decide_eq_true (show 0<ls.length by omega)]
   refine gn ?_
   exact ⟨(1,C),⟨by omega,(fun h=>by cases h),(fun _=>⟨hC,jx oZ⟩)⟩,sOZ,ar,_,aa⟩
 ·obtain rfl:j=1:=oZ
  obtain ⟨bF,dS⟩:=pF rfl
  refine gz ?_
  exact fin ⟨C,by rw [dS];rfl,bF,rfl⟩ aa
end
theorem Vf (m:Nat)(hm:m<=1000000):Ct 281 [.slice none 0 0,.int .i64 m] [] fun u Bs=>∃C,aC C 110 1 u 0 []/\Bs=[C]:=by
 rcases Nat.eq_zero_or_pos m with rfl | h0
 ·refine st func281 fun w0 => ?_
  refine gz ?_
  exact fin ⟨[],aC.nil _ _,rfl⟩ aa
 ·refine st func281 fun w0 => ?_
  refine gpz ?_;intro g c l hc ng hl
  refine gv ?_
  refine gz ?_
  exact fin ⟨_,vh ng hl,rfl⟩ aa
theorem L8 (DL Dl:Chunk)(vL:Value)(ad:Option Addr)(w c:Nat)(xs:List Value)(hL:Rd DL 1 vL 1 [.slice ad w c])(hl:Rd Dl 1 (.slice ad w c) w xs)(hw:w<=1000):Ct 242 [vL] [DL,Dl] fun u Bs=>∃C,aC C 110 1 u w xs/\Bs=[C,DL,Dl]:=by
 obtain ⟨kB,cL,rfl⟩:=hL.slice
 obtain ⟨gL,oL,rfl⟩:=hL.addr oZ
 have bX:[Value.slice ad w c][0]? = some (.slice ad w c):=rfl
 refine st func242 fun w0 => ?_
 refine gl [0,9,10] (fun j:Nat=>[(11,.int .i64 j),(3,.int .i64 (j*w:Nat))]) (fun _=>[]) (fun j=>j<=1) (fun j=>1 - j) 0 oZ ?_
 intro j hj
 refine gi ?_ ?_ <;> intro br
 ·obtain rfl:j=0:=oZ
  have ha:IntKind.i64.wrap (((0*w:Nat):Int)+w)=((1*w:Nat):Int):=by rw [IntWalk.i64_in _ oZ];omega
  refine gn ?_
  exact ⟨1,by omega,by omega,ar,_,aa⟩
 ·obtain rfl:j=1:=oZ
  rw [Nat.one_mul]
  refine gc (Vf w oZ) ?_
  rintro v0 _ ⟨C,hC,rfl⟩
  refine gl [0,25,26] (fun ((j,v,_):Nat×Value×Chunk)=>[(27,.int .i64 j),(6,v)]) (fun (_,_,C)=>[C]) (fun (j,v,C)=>j<=1/\(j=0->aC C 110 1 v 0 [])/\(j=1->aC C 110 1 v w xs)) (fun (j,_)=>1 - j) (0,v0,C) ⟨by omega,(fun _=>hC),(fun h=>by cases h)⟩ ?_
  rintro ⟨j,v,C⟩ ⟨hj,h0,h1⟩
  refine gi ?_ ?_ <;> intro br
  ·obtain rfl:j=0:=oZ
   have Uo:=h0 rfl
   obtain ⟨kK,cv,rfl⟩:=Uo.slice
   refine gp ?_;intro ia c3 C3 kP
   rw [Nat.zero_add,nil_append] at kP
   refine gn ?_
   exact ⟨(1,.slice ia (0+w) c3,C3),⟨by omega,(fun h=>by cases h),(fun _=>by rw [Nat.zero_add];exact kP)⟩,sOZ,ar,_,aa⟩
  ·obtain rfl:j=1:=oZ
   have pF:=h1 rfl
   refine gz ?_
   exact fin ⟨C,pF,rfl⟩ aa
theorem Ma (p:Nat)(qs:List Nat)(R:Rk)(C:Chunk)(hC:bj p qs R C)(i q a:Nat)(l:fj)(L:Chunk)(hL:PL a q l L)(hq:qs[i]? = some q)(hl:R.live i):Ct 243 [ptr a] [C,L] fun u Bs=>u = .bool false/\Bs=[C,L]:=by
 have hd:Ct 282 [ptr q] [C] fun u Bs=>u = .bool false/\Bs=[C]:=by
  obtain ⟨vw,vd,Cw,Cd,A,B,z,g1,g2,qO,sL,d,hO⟩:=hC.open hq
  rw [hO.ZL hl]
  refine st func282 fun w0 => ?_
  refine gs ?_
  refine gz ?_
  exact fin ⟨rfl,rfl⟩ aa
 obtain ⟨ad,c,D,z1,z2,z3,hD,rfl⟩:=hL
 refine st func243 fun w0 => ?_
 refine gs ?_
 refine gc hd ?_
 rintro _ _ ⟨rfl,rfl⟩
 refine gz ?_
 exact fin ⟨rfl,rfl⟩ aa
section
variable (T:TypeId)(fr:Nat×Nat)(p:Nat)(qs:List Nat)(t pool:Nat)(tp:Tp)(pr:Bool)(n:Nat)(ls:List (Option Lv))(no:Nat)(V:Chunk)(hV:iZ t pool tp pr n ls no V)(ok:dj tp pr n ls.length)(hall:∀x∈ls,x≠none)
include hV ok hall
theorem HE:Ct 182 [ptr t] [V] fun u Bs=>∃C,aC C 110 1 u ls.length (ls.map iQ)/\Bs=[C,V]:=by
 obtain ⟨m,M,jj,cT,DT,eb,cI,DI,kB,cL,DL,pO,cl,Dl,vD,DD,L,hT,hI,xW,hl,hM,hL,rfl⟩:=hV
 have kA:=ok.hw
 refine st func182 fun w0 => ?_
 refine gs ?_
 refine gc (L8 DL Dl _ pO ls.length cl _ xW.rd hl.rd oZ) ?_
 rintro _ _ ⟨Cx,hCx,rfl⟩
 obtain ⟨XO,cx,rfl⟩:=hCx.slice
 have hxr:=hCx.rd
 obtain ⟨gx,ox,rfl⟩:=hxr.addr oZ
 refine gl [10,11] (fun ((j,v,_):Nat×Value×Chunk)=>[(12,.int .i64 j),(3,v)]) (fun (_,_,C)=>[C]) (fun (j,v,C)=>j<=ls.length/\aC C 110 1 v j ((ls.take j).map iQ)) (fun (j,_)=>ls.length - j) (0,.slice none 0 0,[]) ⟨by omega,aC.nil _ _⟩ ?_
 rintro ⟨j,v,C⟩ ⟨hj,hC⟩
 obtain ⟨kK,cv,rfl⟩:=hC.slice
 refine gi ?_ ?_ <;> intro br
 ·obtain ⟨oy,hy⟩:=eC (l:=ls) (i:=j) oZ
  rcases oy with _ | y
  ·exact absurd rfl (hall _ (mem_of_getElem? hy))
  have bX:(ls.map iQ)[j]? = some (ptr y.a):=by rw [getElem?_map,hy];rfl
  have EG:(ls.take (j+1)).map iQ=(ls.take j).map iQ++[ptr y.a]:=by
   obtain ⟨jQ,he⟩:=List.getElem?_eq_some_iff.1 hy
   rw [take_succ_eq_append_getElem jQ,he,map_append];rfl
  refine gm ?_;intro b20
  refine gp ?_;intro ia c3 C3 kP
  refine gn ?_
  exact ⟨(j+1,_,C3),⟨by omega,by rw [EG];exact kP⟩,sOZ,ar,_,aa⟩
 ·obtain rfl:j=ls.length:=oZ
  rw [take_length] at hC
  refine gz ?_
  exact fin ⟨C,hC,rfl⟩ aa
theorem Vg (R:Rk)(C:Chunk)(hC:bj p qs R C)(ho:dE qs R n ls):Ct 184 [ptr t] [C,V] fun u Bs=>u = .bool R.off/\Bs=[C,V]:=by
 have ha:=HE t pool tp pr n ls no V hV ok hall
 have kA:=ok.hw
 have hn:=ok.hn
 refine st func184 fun w0 => ?_
 refine gc ha ?_
 rintro _ _ ⟨Ca,XT,rfl⟩
 obtain ⟨m,M,jj,cT,DT,eb,cI,DI,kB,cL,DL,pO,cl,Dl,vD,DD,L,hT,hI,xW,hl,hM,hL,rfl⟩:=hV
 obtain ⟨XE,ca,rfl⟩:=XT.slice
 have har:=XT.rd
 obtain ⟨ga_,oa,rfl⟩:=har.addr oZ
 refine gs ?_
 refine gl [8,9] (fun j:Nat=>[(10,.int .i64 j)]) (fun _=>[]) (fun j=>j<=ls.length/\(0<j->R.off=false)) (fun j=>ls.length - j) 0 ⟨by omega,(fun h=>by cases h)⟩ ?_
 rintro j ⟨hj,jx⟩
 refine gi ?_ ?_ <;> intro br
 ·obtain ⟨oy,hy⟩:=eC (l:=ls) (i:=j) oZ
  rcases oy with _ | y
  ·exact absurd rfl (hall _ (mem_of_getElem? hy))
  obtain ⟨o1,o2,o3⟩:=ho y (mem_of_getElem? hy)
  have bX:(ls.map iQ)[j]? = some (ptr y.a):=by rw [getElem?_map,hy];rfl
  obtain ⟨A,L1,B,qS,rfl⟩:=hL.at hy
  refine gs ?_
  refine gc (Ma p qs R C hC y.i y.q y.a _ L1 qS o1 o2) ?_
  rintro _ _ ⟨rfl,rfl⟩
  refine gc (wG p qs R C hC y.i y.q n y.a _ L1 qS o1 o2 o3 hn 0 0 oZ) ?_
  rintro _ _ (⟨dS,rfl,rfl⟩ | ⟨dS,g2,rfl,rfl⟩)
  ·refine gz ?_
   exact fin ⟨by rw [dS],rfl⟩ aa
  ·refine gn ?_
   exact ⟨j+1,⟨by omega,(fun _=>dS)⟩,by omega,ar,_,aa⟩
 ·obtain rfl:j=ls.length:=oZ
  refine gz ?_
  exact fin ⟨by rw [jx oZ],rfl⟩ aa
end
end Go.Proofs.YtpabnmeponmonaaGreatDoor
namespace Go.Sl
def Mb (ring:Nat->Nat->Nat->Option Ub)(pool w:Nat)(u:Ub):Prop:=∃i k j,i<w/\k<4/\j<8/\ring i k j=some u/\u.pool=pool
def mD (ring:Nat->Nat->Nat->Option Ub)(pool w:Nat)(x:Ub):Prop:=(x=jT/\∀u,¬Mb ring pool w u)\/(Mb ring pool w x/\1<=x.ae/\∀u,Mb ring pool w u->u.ae<=x.ae)
theorem HF {ring:Nat->Nat->Nat->Option Ub}{pool j:Nat}{x:Ub}(h:mD ring pool j x)(hn:∀u,¬ ∃k i,k<4/\i<8/\ring j k i=some u/\u.pool=pool):mD ring pool (j+1) x:=by
 have e:∀u,Mb ring pool (j+1) u↔Mb ring pool j u:=fun u=>⟨fun ⟨i,k,q,h1,h2,h3,h4,h5⟩=>by
  rcases (show i<j\/i=j by omega) with c | rfl
  ·exact ⟨i,k,q,c,h2,h3,h4,h5⟩
  ·exact absurd ⟨k,q,h2,h3,h4,h5⟩ (hn u),fun ⟨i,k,q,h1,h2⟩=>⟨i,k,q,by omega,h2⟩⟩
 simpa only [mD,e] using h
theorem HG {ring:Nat->Nat->Nat->Option Ub}{pool j:Nat}{x y:Ub}(h:mD ring pool j x)(hy:∃k i,k<4/\i<8/\ring j k i=some y/\y.pool=pool)(h1:1<=y.ae)(hm:∀u,(∃k i,k<4/\i<8/\ring j k i=some u/\u.pool=pool)->u.ae<=y.ae) :
  mD ring pool (j+1) (if x.ae<y.ae then y else x):=by
 have e:∀u,Mb ring pool (j+1) u->Mb ring pool j u\/∃k i,k<4/\i<8/\ring j k i=some u/\u.pool=pool:=fun u ⟨i,k,q,h1,h2,h3,h4,h5⟩=>by
  rcases (show i<j\/i=j by omega) with c | rfl
  ·exact .inl ⟨i,k,q,c,h2,h3,h4,h5⟩
  ·exact .inr ⟨k,q,h2,h3,h4,h5⟩
 have e1:∀u,Mb ring pool j u->Mb ring pool (j+1) u:=fun u ⟨i,k,q,h1,h2⟩=>⟨i,k,q,by omega,h2⟩
 obtain ⟨ky,qy,hy1⟩:=hy
 right
 split
 ·rename_i br
  refine ⟨⟨j,ky,qy,by omega,hy1⟩,h1,fun u hu => ?_⟩
  rcases e u hu with hu | hu
  ·rcases h with ⟨-,h⟩ | ⟨-, -,h⟩
   ·exact absurd hu (h u)
   ·have:=h u hu;omega
  ·exact hm u hu
 ·rename_i yS
  rcases h with ⟨rfl,h⟩ | ⟨h2,h3,h4⟩
  ·exact absurd (show jT.ae<y.ae from h1) yS
  ·refine ⟨e1 x h2,h3,fun u hu => ?_⟩
   rcases e u hu with hu | hu
   ·exact h4 u hu
   ·have:=hm u hu;omega
end Go.Sl
namespace Go.Proofs.YtpabnmeponmonaaGreatDoor
section
variable (T:TypeId)(fr:Nat×Nat)(p:Nat)(qs:List Nat)(t pool:Nat)(tp:Tp)(pr:Bool)(n:Nat)(ls:List (Option Lv))(no:Nat)(V:Chunk)(hV:iZ t pool tp pr n ls no V)(ok:dj tp pr n ls.length)(hall:∀x∈ls,x≠none)
include hV ok hall
theorem Bj (R:Rk)(C:Chunk)(hC:bj p qs R C)(ho:dE qs R n ls)(db:R.off=false)(ring:Nat->Nat->Nat->Option Ub)(hr:∀i x,ls[i]? = some (some x)->iD R n x.i (ring i))(U:List Ub)(hU:U.length<=19)(Hk:∀i k j u,ring i k j=some u->u∈U) :
  Ct 45 [ptr t] [gK T fr,C,V] fun u Bs=>(∃x,mD ring pool ls.length x/\u = .tuple #[x.agg,.int .i64 (if x.ae=0 then 82 else 0)])/\Bs=[gK T fr,C,V]:=by
 obtain ⟨m,M,jj,cT,DT,eb,cI,DI,kB,cL,DL,pO,cl,Dl,vD,DD,L,hT,hI,xW,hl,hM,hL,rfl⟩:=hV
 have kA:=ok.hw
 have hn:=ok.hn
 have JJ:=xW.rd
 obtain ⟨gL,oL,rfl⟩:=JJ.addr oZ
 have yn:=hl.rd
 obtain ⟨mC,ol,rfl⟩:=yn.addr oZ
 have rS:[Value.slice (some ⟨mC,ol,none⟩) ls.length cl][0]? = some (.slice (some ⟨mC,ol,none⟩) ls.length cl):=rfl
 refine st func45 fun w0 => ?_
 refine gs ?_
 refine ga ?_;intro b2
 refine ga ?_;intro b4
 refine gl [2,4,13,14] (fun ((j,_):Nat×Ub)=>[(15,.int .i64 j)]) (fun (_,x)=>[[(b4,ax x.lay 123)]]) (fun (j,x)=>j<=1/\(j=0->x=jT)/\(j=1->mD ring pool ls.length x)) (fun (j,_)=>1 - j) (0,jT) ⟨by omega,(fun _=>rfl),(fun h=>by cases h)⟩ ?_
 rintro ⟨j,x⟩ ⟨hj,Xk,x8⟩
 refine gi ?_ ?_ <;> intro br
 ·obtain rfl:j=0:=oZ
  have Xk:=Xk rfl
  subst Xk
  refine gl [2,4,13,14,15,19,20] (fun ((j,_):Nat×Ub)=>[(21,.int .i64 j)]) (fun (_,x)=>[[(b4,ax x.lay 123)]]) (fun (j,x)=>j<=ls.length/\mD ring pool j x) (fun (j,_)=>ls.length - j) (0,jT) ⟨by omega,.inl ⟨rfl,fun u ⟨i,k,j,h,_⟩=>by omega⟩⟩ ?_
  rintro ⟨j,x⟩ ⟨hj,hx⟩
  refine gi ?_ ?_ <;> intro qI
  ·obtain ⟨oy,hy⟩:=eC (l:=ls) (i:=j) oZ
   rcases oy with _ | y
   ·exact absurd rfl (hall _ (mem_of_getElem? hy))
   obtain ⟨o1,o2,o3⟩:=ho y (mem_of_getElem? hy)
   have bX:(ls.map iQ)[j]? = some (ptr y.a):=by rw [getElem?_map,hy];rfl
   obtain ⟨A,L1,B,qS,rfl⟩:=hL.at hy
   refine gs ?_
   refine gc (EH T fr p qs R C hC y.i y.q n y.a _ L1 qS o1 o2 db o3 hn (ring j) (hr j y hy) U hU (Hk j)) ?_
   rintro v _ ⟨us,D,hD,hm,hs,rfl⟩
   have jW:=hD.rd
   obtain ⟨ad,c,rfl⟩:=hD.slice
   rcases us with _ | ⟨u0,us⟩
   ·have hb:mD ring pool (j+1) x:=HF hx fun u h=>absurd ((hm u).2 h) (by simp)
    have h0:([]:List Ub).length=0:=rfl
    rw [h0]
    refine gn ?_
    exact ⟨(j+1,x),⟨by omega,hb⟩,sOZ,ar,_,aa⟩
   ·obtain ⟨g,off,rfl⟩:=jW.addr (by simp)
    have vg:=av Ub.ak (u0 :: us) 0 u0 rfl
    have vV:=vg 1 _ rfl
    have jH:=(hm u0).1 (mem_cons_self ..)
    have aai:∀u,(∃k i,k<4/\i<8/\ring j k i=some u/\u.pool=pool)->u.ae<=u0.ae:=fun u h=>by
     rcases List.mem_cons.1 ((hm u).2 h) with rfl | h'
     ·exact Nat.le_refl _
     ·obtain ⟨q,hq⟩:=mem_iff_getElem?.1 h'
      have yc:=(List.getElem?_eq_some_iff.1 hq).1
      exact hs 0 (q+1) u0 u oZ (by simp only [length_cons];omega) rfl hq
    have IM:1<=u0.ae:=by
     obtain ⟨k,i,h1,h2,h3, -⟩:=jH
     have:=hr j y hy k i h1 h2
     rw [h3] at this
     exact (AI this.2.1).1
    have hb:=HG hx jH IM aai
    have h0:(u0 :: us).length=us.length+1:=rfl
    rw [h0] at jW ⊢
    refine gi ?_ ?_ <;> intro eV
    ·rw [if_pos oZ] at hb
     refine gn ?_
     exact ⟨(j+1,u0),⟨by omega,hb⟩,sOZ,ar,_,aa⟩
    ·rw [if_neg oZ] at hb
     refine gn ?_
     exact ⟨(j+1,x),⟨by omega,hb⟩,sOZ,ar,_,aa⟩
  ·obtain rfl:j=ls.length:=oZ
   refine gn ?_
   exact ⟨(1,x),⟨by omega,(fun h=>by cases h),(fun _=>hx)⟩,sOZ,ar,_,aa⟩
 ·obtain rfl:j=1:=oZ
  have hx:=x8 rfl
  refine gi ?_ ?_ <;> intro hz
  ·have HH:x=jT:=by
    rcases hx with ⟨h, -⟩ | ⟨-,h, -⟩
    ·exact h
    ·simp at hz;omega
   subst HH
   refine gz ?_
   exact fin ⟨⟨jT,hx,rfl⟩,rfl⟩ aa
  ·refine gz ?_
   exact fin ⟨⟨x,hx,by rw [if_neg (by simp at hz;omega)]⟩,rfl⟩ aa
end
end Go.Proofs.YtpabnmeponmonaaGreatDoor
namespace Go.Sl
def zu (R:Rk)(i z:Nat):Nat->Nat
 | 0=>z
 | k+1=>max (zu R i z k) ((if ig (R.now i (18+k)) then fN (R.now i (18+k)) else 0)+1)
def rX (R:Rk)(ls:List (Option Lv))(z:Nat):Nat->Nat
 | 0=>z
 | j+1=>match ls[j]? with
  | some (some x)=>zu R x.i (rX R ls z j) 256
  | _=>rX R ls z j
theorem Bl {s:eE}(h:ig s=true):1<=fN s/\fN s<=281474976710656:=by
 unfold ig at h
 rw [Bool.and_eq_true] at h
 exact of_decide_eq_true h.2
theorem HI {R:Rk}{i z:Nat}(h:z<=281474976710657):∀k,zu R i z k<=281474976710657
 | 0=>h
 | k+1=>by
  rw [zu]
  have:=HI (R:=R) (i:=i) h k
  split
  ·rename_i hl
   have:=Bl hl;omega
  ·omega
theorem QE {R:Rk}{ls:List (Option Lv)}{z:Nat}(h:z<=281474976710657):∀j,rX R ls z j<=281474976710657
 | 0=>h
 | j+1=>by
  rw [rX]
  have:=QE (R:=R) (ls:=ls) h j
  split
  ·exact HI this _
  ·exact this
attribute [irreducible] zu rX
end Go.Sl
namespace Go.Proofs.YtpabnmeponmonaaGreatDoor
section
variable (T:TypeId)(fr:Nat×Nat)(p:Nat)(qs:List Nat)(t pool:Nat)(tp:Tp)(pr:Bool)(n:Nat)(ls:List (Option Lv))(no:Nat)(V:Chunk)(hV:iZ t pool tp pr n ls no V)(ok:dj tp pr n ls.length)(hall:∀x∈ls,x≠none)
include hV ok hall
theorem Mc (R:Rk)(C:Chunk)(hC:bj p qs R C)(ho:dE qs R n ls)(db:R.off=false)(ring:Nat->Nat->Nat->Option Ub)(hr:∀i x,ls[i]? = some (some x)->iD R n x.i (ring i))(U:List Ub)(hU:U.length<=19)(Hk:∀i k j u,ring i k j=some u->u∈U)
  (ey:∀i,i<ls.length->(∃u,Mb ring pool ls.length u)->∃u k j,k<4/\j<8/\ring i k j=some u/\u.pool=pool) (gf:no<=281474976710657) :
  Ct 76 [ptr t] [gK T fr,C,V] fun _ Bs=>∃V',iZ t pool tp pr n ls (rX R ls no ls.length) V'/\Bs=[gK T fr,C,V']:=by
 have QF:=Bj T fr p qs t pool tp pr n ls no V hV ok hall R C hC ho db ring hr U hU Hk
 obtain ⟨dm,M,jj,cT,DT,eb,cI,DI,kB,cL,DL,pO,cl,Dl,vD,DD,L,hT,hI,xW,hl,hM,hL,rfl⟩:=hV
 have hV:∀no,iZ t pool tp pr n ls no ([(t,EI pool (.slice jj 1 cT) (.slice eb 1 cI) (.slice kB 1 cL) vD no)]++(DT++(DI++(DL++(Dl++(DD++(M++L))))))):=fun no=>⟨dm,M,jj,cT,DT,eb,cI,DI,kB,cL,DL,pO,cl,Dl,vD,DD,L,hT,hI,xW,hl,hM,hL,rfl⟩
 have kA:=ok.hw
 have hn:=ok.hn
 have JJ:=xW.rd
 obtain ⟨gL,oL,rfl⟩:=JJ.addr oZ
 have yn:=hl.rd
 obtain ⟨mC,ol,rfl⟩:=yn.addr oZ
 have rS:[Value.slice (some ⟨mC,ol,none⟩) ls.length cl][0]? = some (.slice (some ⟨mC,ol,none⟩) ls.length cl):=rfl
 refine st func76 fun w0 => ?_
 refine gs ?_
 refine gc QF ?_
 rintro _ _ ⟨⟨x,hx,rfl⟩,rfl⟩
 refine gs ?_
 refine ga ?_;intro b2
 refine gl [0,2,20,21] (fun ((j,_):Nat×Nat)=>[(22,.int .i64 j)]) (fun (_,z)=>[[(t,EI pool (.slice jj 1 cT) (.slice eb 1 cI) (.slice (some ⟨gL,oL,none⟩) 1 cL) vD z)]]) (fun (j,z)=>j<=1/\z=rX R ls no (j*ls.length)) (fun (j,_)=>1 - j) (0,no) ⟨by omega,by rw [Nat.zero_mul,rX]⟩ ?_
 rintro ⟨j,z⟩ ⟨hj,hz⟩
 refine gi ?_ ?_ <;> intro br
 ·obtain rfl:j=0:=oZ
  rw [Nat.zero_mul] at hz
  refine gl [0,2,4,20,21,22,27,28] (fun ((j,_):Nat×Nat)=>[(29,.int .i64 j)]) (fun (_,z)=>[[(t,EI pool (.slice jj 1 cT) (.slice eb 1 cI) (.slice (some ⟨gL,oL,none⟩) 1 cL) vD z)]]) (fun (j,z)=>j<=ls.length/\z=rX R ls no j) (fun (j,_)=>ls.length - j) (0,z) ⟨by omega,hz⟩ ?_
  rintro ⟨j,z⟩ ⟨hj,hz⟩
  refine gi ?_ ?_ <;> intro qI
  ·obtain ⟨oy,hy⟩:=eC (l:=ls) (i:=j) oZ
   rcases oy with _ | y
   ·exact absurd rfl (hall _ (mem_of_getElem? hy))
   obtain ⟨o1,o2,o3⟩:=ho y (mem_of_getElem? hy)
   have bX:(ls.map iQ)[j]? = some (ptr y.a):=by rw [getElem?_map,hy];rfl
   have Nu:rX R ls no (j+1)=zu R y.i (rX R ls no j) 256:=by rw [rX,hy]
   have U0:z<=281474976710657:=by rw [hz];exact QE gf j
   obtain ⟨A,L1,B,qS,rfl⟩:=hL.at hy
   refine gs ?_
   refine gl [0,2,4,6,7,20,21,22,27,28,29] (fun ((k,_):Nat×Nat)=>[(36,.int .i64 k)]) (fun (_,z)=>[[(t,EI pool (.slice jj 1 cT) (.slice eb 1 cI) (.slice (some ⟨gL,oL,none⟩) 1 cL) vD z)]]) (fun (k,z')=>k<=256/\z'=zu R y.i z k) (fun (k,_)=>256 - k) (0,z) ⟨by omega,by rw [zu]⟩ ?_
   rintro ⟨k,z'⟩ ⟨hk,QG⟩
   refine gi ?_ ?_ <;> intro afe
   ·have ag2:z'<=281474976710657:=by rw [QG];exact HI U0 k
    have yl:zu R y.i z (k+1)=max z' ((if ig (R.now y.i (18+k)) then fN (R.now y.i (18+k)) else 0)+1):=by rw [zu,<-QG]
    refine gc (Jr T fr p qs R C hC y.i y.q n y.a _ L1 qS o1 o2 o3 k oZ oZ) ?_
    rintro _ _ (⟨dS,rfl,rfl⟩ | ⟨dS,jL,rfl,rfl⟩ | ⟨dS,jL,g2,rfl,rfl⟩)
    ·rw [db] at dS;cases dS
    ·rw [if_neg (by rw [jL];simp)] at yl
     refine go ?_
     rw [show (max ((z':Nat):Int) (0+1))=((zu R y.i z (k+1):Nat):Int) by rw [yl];omega]
     refine gn ?_
     exact ⟨(k+1,zu R y.i z (k+1)),⟨by omega,rfl⟩,sOZ,ar,_,aa⟩
    ·rw [if_pos jL] at yl
     have Lq:=Bl jL
     refine go ?_
     rw [show (max ((z':Nat):Int) ((fN (R.now y.i (18+k))+1:Nat):Int))=((zu R y.i z (k+1):Nat):Int) by rw [yl];omega]
     refine gn ?_
     exact ⟨(k+1,zu R y.i z (k+1)),⟨by omega,rfl⟩,sOZ,ar,_,aa⟩
   ·obtain rfl:k=256:=oZ
    rw [hz,<-Nu] at QG
    clear Nu U0 afe hk hz
    refine gg ?_ ?_ <;> intro hg
    ·refine gc (EH T fr p qs R C hC y.i y.q n y.a _ L1 qS o1 o2 db o3 hn (ring j) (hr j y hy) U hU (Hk j)) ?_
     rintro v _ ⟨us,D,hD,hm,hs,rfl⟩
     obtain ⟨ad,c,rfl⟩:=hD.slice
     have Tj:us≠[]:=by
      rcases hx with ⟨rfl, -⟩ | ⟨hx, -, -⟩
      ·simp [jT] at hg
      ·obtain ⟨u,k,q,h1,h2,h3,h4⟩:=ey j oZ ⟨x,hx⟩
       exact ne_nil_of_mem ((hm u).2 ⟨k,q,h1,h2,h3,h4⟩)
     have Ao:=length_pos_iff.2 Tj
     refine gn ?_
     exact ⟨(j+1,z'),⟨by omega,QG⟩,sOZ,ar,_,aa⟩
    ·refine gn ?_
     exact ⟨(j+1,z'),⟨by omega,QG⟩,sOZ,ar,_,aa⟩
  ·obtain rfl:j=ls.length:=oZ
   refine gn ?_
   exact ⟨(1,z),⟨by omega,by rw [Nat.one_mul];exact hz⟩,sOZ,ar,_,aa⟩
 ·obtain rfl:j=1:=oZ
  rw [Nat.one_mul] at hz
  subst hz
  refine gz ?_
  exact fin ⟨_,hV _,rfl⟩ aa
end
theorem Vh (tp:Tp)(D1 D2:Chunk)(iY ad2:Option Addr)(c1 c2:Nat)(h1:Rd D1 3 (.slice iY 1 c1) 1 tp.lay)(h2:Rd D2 3 (.slice ad2 1 c2) 1 tp.lay):Ct 75 [.slice iY 1 c1,.slice ad2 1 c2] [D1,D2] fun u Bs=>u = .bool true/\Bs=[D1,D2]:=by
 obtain ⟨g1,o1,rfl⟩:=h1.addr oZ
 obtain ⟨g2,o2,rfl⟩:=h2.addr oZ
 have hs:Sub (0*3) tp.lay tp.lay:=av Tp.ak [tp] 0 tp rfl
 refine st func75 fun w0 => ?_
 refine gl [0,1,11,12] (fun j:Nat=>[(13,.int .i64 j)]) (fun _=>[]) (fun j=>j<=1) (fun j=>1 - j) 0 oZ ?_
 intro j hj
 refine gi ?_ ?_ <;> intro br
 ·obtain rfl:j=0:=oZ
  refine gi ?_ ?_ <;> intro ey
  ·simp at ey
  ·refine gn ?_
   exact ⟨1,by omega,by omega,ar,_,aa⟩
 ·refine gz ?_
  exact fin ⟨rfl,rfl⟩ aa
theorem QH (tp:Tp)(D1:Chunk)(iY:Option Addr)(c1:Nat)(h1:Rd D1 3 (.slice iY 1 c1) 1 tp.lay):Ct 75 [.slice iY 1 c1,.slice iY 1 c1] [D1] fun u Bs=>u = .bool true/\Bs=[D1]:=by
 obtain ⟨g1,o1,rfl⟩:=h1.addr oZ
 have hs:Sub (0*3) tp.lay tp.lay:=av Tp.ak [tp] 0 tp rfl
 refine st func75 fun w0 => ?_
 refine gl [0,1,11,12] (fun j:Nat=>[(13,.int .i64 j)]) (fun _=>[]) (fun j=>j<=1) (fun j=>1 - j) 0 oZ ?_
 intro j hj
 refine gi ?_ ?_ <;> intro br
 ·obtain rfl:j=0:=oZ
  refine gi ?_ ?_ <;> intro ey
  ·simp at ey
  ·refine gn ?_
   exact ⟨1,by omega,by omega,ar,_,aa⟩
 ·refine gz ?_
  exact fin ⟨rfl,rfl⟩ aa
def aff (pool:Nat)(tp:Tp)(w:Nat)(qs:List Nat)(ls:List (Option Lv))(v4:Value)(Tk DT DL Dl DD Dd:Chunk):Prop:=∃t jj cT kB cL mC Cy cD oR,v4=ptr t/\aC DT 23 3 (.slice jj 1 cT) 1 tp.lay/\aC DL 113 1 (.slice kB 1 cL) 1 [.slice (some ⟨mC,0,none⟩) w w]/\aC DD 39 1 (.slice Cy 1 cD) 1 [.slice (some ⟨oR,0,none⟩) w w] /\
 Tk=[(t,EI pool (.slice jj 1 cT) (.slice none 0 0) (.slice kB 1 cL) (.slice Cy 1 cD) 1)]/\Dl=[(mC,ax (ls.map iQ++replicate (w - ls.length) (.pointer none)) 110)]/\Dd=[(oR,ax ((qs.take ls.length).map ptr++replicate (w - ls.length) (.pointer none)) 56)]
theorem Md (T:TypeId)(fr:Nat×Nat)(p:Nat)(qs:List Nat)(pool:Nat)(tp:Tp)(pr:Bool)(n w:Nat)(ok:dj tp pr n w)(hqs:qs.length=w)(R:Rk)(C:Chunk)(hC:bj p qs R C)(db:R.off=false)(xg:∀k,k<w->R.live k/\R.size k=n)
  (Lq:∀k,k<w->wm ⟨pool,[tp],0,k⟩=0/\fj.Ok ⟨pool,[tp],0,k⟩) (ZX:∀k,k<w->R.now k (ez n 0)=whole (dW ⟨pool,[tp],0,k⟩)) (Q:Chunk) (j7:Option Addr) (cq:Nat) (hQ:Rd Q 1 (.slice j7 w cq) w (qs.map ptr))
  (ring:Nat->Nat->Nat->Option Ub) (hr:∀k,k<w->iD R n k (ring k)) (U:List Ub) (hU:U.length<=19) (Hk:∀i k j u,ring i k j=some u->u∈U) (ey:∀i,i<w->(∃u,Mb ring pool w u)->∃u k j,k<4/\j<8/\ring i k j=some u/\u.pool=pool) :
  Ct 26 [.slice j7 w cq] [gK T fr,C,Q] fun u Bs=>∃t V ls,u = .tuple #[ptr t,.int .i64 0]/\ls.length=w/\j0 qs ls/\iZ t pool tp pr n ls (rX R ls 1 w) V/\Bs=[V,gK T fr,C,Q]:=by
 have hn:=ok.hn
 have kA:=ok.hw
 have htp:=ok.ht
 have aam:tp.leaves=w:=by rw [htp]
 have l8:tp.bE=n:=by rw [htp]
 obtain ⟨mk,Bh⟩:∃mk:Nat->fj,mk=fun k=>⟨pool,[tp],0,(k:Nat)⟩:=⟨_,rfl⟩
 obtain ⟨gq,oq,rfl⟩:=hQ.addr oZ
 refine st func26 fun w0 => ?_
 refine gl [2,3,11,12] (fun ((j,v4,_):Nat×Value×List (Option Lv)×Chunk×Chunk×Chunk×Chunk×Chunk×Chunk×Chunk)=>[(13,.int .i64 j),(4,v4)]) (fun (_,_,_,Tk,DT,DL,Dl,DD,Dd,L)=>[Tk,DT,DL,Dl,DD,Dd,L]) (fun (j,v4,ls,Tk,DT,DL,Dl,DD,Dd,L)=>j<=w/\ls.length=j/\j0 qs ls/\iR mk 0 ls L/\(j=0->v4 = .pointer none/\Tk=[]/\DT=[]/\DL=[]/\Dl=[]/\DD=[]/\Dd=[])/\(0<j->aff pool tp w qs ls v4 Tk DT DL Dl DD Dd)) (fun (j,_)=>w - j) (0,.pointer none,[],[],[],[],[],[],[],[]) ⟨by omega,rfl,(fun k hk=>absurd hk (by simp)),rfl,(fun _=>⟨rfl,rfl,rfl,rfl,rfl,rfl,rfl⟩),(fun h=>by cases h)⟩ ?_
 rintro ⟨j,v4,ls,Tk,DT,DL,Dl,DD,Dd,L⟩ ⟨hj,jL,JK,hL,h0,h1⟩
 refine gi ?_ ?_ <;> intro br
 ·obtain ⟨q,hq⟩:=eC (l:=qs) (i:=j) oZ
  obtain ⟨uk,jK⟩:=xg j oZ
  have ND:mk j=⟨pool,[tp],0,(j:Nat)⟩:=by rw [Bh]
  have mI:=UP T fr p qs R C hC j q n hq uk db jK hn (mk j) (by rw [ND];exact (Lq j oZ).1) (by rw [ND];exact (Lq j oZ).2) (fun t ht=>by rw [ND] at ht;simp at ht;rw [<-ht];exact l8) 0 oZ (fun k hk=>absurd hk oZ) (by rw [ND];exact ZX j oZ)
  refine gc mI ?_
  rintro _ _ ⟨a,L1,rfl,hL1,rfl⟩
  have afg:Ct 74 [ptr a] [L1] fun u Bs=>∃ad c D,u = .agg #[.int .u64 pool,.slice ad 1 c,.int .i64 0,.int .i64 j]/\aC D 23 3 (.slice ad 1 c) 1 tp.lay/\Bs=[D,L1]:=by
   have:=Qa a q (mk j) L1 hL1 (by rw [ND];simp)
   rw [ND] at this
   simpa [ns] using this
  refine gc afg ?_
  rintro _ _ ⟨ag3,cD0,D,rfl,hD,rfl⟩
  have jW:=hD.rd
  obtain ⟨gD0,oD0,rfl⟩:=jW.addr oZ
  refine ga ?_;intro b9
  rcases Nat.eq_zero_or_pos j with hj0 | hj0
  ·obtain ⟨rfl,rfl,rfl,rfl,rfl,rfl,rfl⟩:=h0 hj0
   refine ga ?_;intro t
   refine gc (zr t pool tp w ⟨aam,kA.2⟩ (some ⟨gD0,oD0,none⟩) cD0 D hD _ 1) ?_
   rintro _ _ ⟨kB,cL,DL,mC,Cy,cD,DD,oR,ES,NC,rfl⟩
   have acB:ls=[]:=eq_nil_of_length_eq_zero oZ
   have e1:[(mC,ax (replicate w (Value.pointer none)) 110)]=[(mC,ax (ls.map iQ++replicate (w - ls.length) (Value.pointer none)) 110)]:=by rw [acB];simp
   have e2:[(oR,ax (replicate w (Value.pointer none)) 56)]=[(oR,ax ((qs.take ls.length).map ptr++replicate (w - ls.length) (Value.pointer none)) 56)]:=by rw [acB];simp
   rw [e1,e2]
   have hT:=hD
   obtain ⟨cT,hcT⟩:∃c,c=cD0:=⟨_,rfl⟩
   subst hcT
   have JJ:=ES.rd
   obtain ⟨gL,oL,rfl⟩:=JJ.addr oZ
   have aan:=NC.rd
   obtain ⟨gDD,oDD,rfl⟩:=aan.addr oZ
   have hcL:[Value.slice (some ⟨mC,0,none⟩) w w][0]? = some (.slice (some ⟨mC,0,none⟩) w w):=rfl
   have hcD:[Value.slice (some ⟨oR,0,none⟩) w w][0]? = some (.slice (some ⟨oR,0,none⟩) w w):=rfl
   have UD:(ls.map iQ++replicate (w - ls.length) (Value.pointer none))[j]? = some (.pointer none):=by
    rw [getElem?_append_right (by rw [length_map];omega),length_map,jL,Nat.sub_self,getElem?_replicate,if_pos oZ]
   have eQ:(ls.map iQ++replicate (w - ls.length) (Value.pointer none)).set j (ptr a)=(ls++[some (⟨a,ls.length,q⟩:Lv)]).map iQ++replicate (w - (ls++[some (⟨a,ls.length,q⟩:Lv)]).length) (.pointer none):=by
    rw [length_append,map_append,jL,oc (by rw [length_map,jL]) oZ];rfl
   have Ei:((qs.take ls.length).map ptr++replicate (w - ls.length) (Value.pointer none)).set j (ptr q)=((qs.take (ls++[some (⟨a,ls.length,q⟩:Lv)]).length).map ptr++replicate (w - (ls++[some (⟨a,ls.length,q⟩:Lv)]).length) (.pointer none)):=by
    obtain ⟨jQ,he⟩:=List.getElem?_eq_some_iff.1 hq
    rw [length_append,jL,oc (by rw [length_map,length_take];omega) oZ,show j+[some (⟨a,j,q⟩:Lv)].length=j+1 from rfl,take_succ_eq_append_getElem jQ,he,map_append];rfl
   have acC:(ls.map iQ++replicate (w - ls.length) (Value.pointer none)).length=w:=by rw [length_append,length_map,length_replicate];omega
   have iK:((qs.take ls.length).map ptr++replicate (w - ls.length) (Value.pointer none)).length=w:=by rw [length_append,length_map,length_take,length_replicate];omega
   refine gd [0,4,8,12,16,20,24,28,32,36,40,44,48,52,57,60,64,68,72,76,80,84,88,92,96,100,104,108,112,116,120] ?_
   refine gc (QH tp D _ _ jW) ?_
   rintro _ _ ⟨rfl,rfl⟩
   refine rQ [[(t,EI pool (.slice (some ⟨gD0,oD0,none⟩) 1 cT) (.slice none 0 0) (.slice (some ⟨gL,oL,none⟩) 1 cL) (.slice (some ⟨gDD,oDD,none⟩) 1 cD) 1)],DL,DD,[(b9,ax [.int .u64 pool,.slice (some ⟨gD0,oD0,none⟩) 1 cT,.int .i64 0,.int .i64 j] 106)]] [0,4,8,12,16,20,24,28,32,36,40,44,48,52,56,60,64,68,72,76,80,84,88,93,96,103] ?_
   refine gn ?_
   rw [eQ,Ei]
   exact ⟨(j+1,ptr t,ls++[some ⟨a,ls.length,q⟩],_,D,DL,_,DD,_,L++L1),⟨by omega,by rw [length_append,jL];rfl,JK.snoc (by rw [jL];exact hq),hL.snoc (by rw [Nat.zero_add,jL];exact hL1),(fun h=>by omega),(fun _=>⟨t,_,cT,_,cL,mC,_,cD,oR,rfl,hT,ES,NC,rfl,rfl,rfl⟩)⟩,sOZ,ar,_,aa⟩
  ·obtain ⟨t,jj,cT,kB,cL,mC,Cy,cD,oR,rfl,hT,ES,NC,rfl,rfl,rfl⟩:=h1 hj0
   have JJ:=ES.rd
   obtain ⟨gL,oL,rfl⟩:=JJ.addr oZ
   have aan:=NC.rd
   obtain ⟨gDD,oDD,rfl⟩:=aan.addr oZ
   have hcL:[Value.slice (some ⟨mC,0,none⟩) w w][0]? = some (.slice (some ⟨mC,0,none⟩) w w):=rfl
   have hcD:[Value.slice (some ⟨oR,0,none⟩) w w][0]? = some (.slice (some ⟨oR,0,none⟩) w w):=rfl
   have UD:(ls.map iQ++replicate (w - ls.length) (Value.pointer none))[j]? = some (.pointer none):=by
    rw [getElem?_append_right (by rw [length_map];omega),length_map,jL,Nat.sub_self,getElem?_replicate,if_pos oZ]
   have eQ:(ls.map iQ++replicate (w - ls.length) (Value.pointer none)).set j (ptr a)=(ls++[some (⟨a,ls.length,q⟩:Lv)]).map iQ++replicate (w - (ls++[some (⟨a,ls.length,q⟩:Lv)]).length) (.pointer none):=by
    rw [length_append,map_append,jL,oc (by rw [length_map,jL]) oZ];rfl
   have Ei:((qs.take ls.length).map ptr++replicate (w - ls.length) (Value.pointer none)).set j (ptr q)=((qs.take (ls++[some (⟨a,ls.length,q⟩:Lv)]).length).map ptr++replicate (w - (ls++[some (⟨a,ls.length,q⟩:Lv)]).length) (.pointer none)):=by
    obtain ⟨jQ,he⟩:=List.getElem?_eq_some_iff.1 hq
    rw [length_append,jL,oc (by rw [length_map,length_take];omega) oZ,show j+[some (⟨a,j,q⟩:Lv)].length=j+1 from rfl,take_succ_eq_append_getElem jQ,he,map_append];rfl
   have acC:(ls.map iQ++replicate (w - ls.length) (Value.pointer none)).length=w:=by rw [length_append,length_map,length_replicate];omega
   have iK:((qs.take ls.length).map ptr++replicate (w - ls.length) (Value.pointer none)).length=w:=by rw [length_append,length_map,length_take,length_replicate];omega
   refine gd [0,4,8,12,16,20,24,28,32,36,40,44,48,52,57,60,64,68,72,76,80,84,88,92,96,100,104,108,112,116,120] ?_
   refine gc (Vh tp D DT _ _ _ _ jW hT.rd) ?_
   rintro _ _ ⟨rfl,rfl⟩
   refine rQ [[(t,EI pool (.slice jj 1 cT) (.slice none 0 0) (.slice (some ⟨gL,oL,none⟩) 1 cL) (.slice (some ⟨gDD,oDD,none⟩) 1 cD) 1)],DL,DD,[(b9,ax [.int .u64 pool,.slice (some ⟨gD0,oD0,none⟩) 1 cD0,.int .i64 0,.int .i64 j] 106)]] [0,4,8,12,16,20,24,28,32,36,40,44,48,52,56,60,64,68,72,76,80,84,88,93,96,103] ?_
   refine gn ?_
   rw [eQ,Ei]
   exact ⟨(j+1,ptr t,ls++[some ⟨a,ls.length,q⟩],_,DT,DL,_,DD,_,L++L1),⟨by omega,by rw [length_append,jL];rfl,JK.snoc (by rw [jL];exact hq),hL.snoc (by rw [Nat.zero_add,jL];exact hL1),(fun h=>by omega),(fun _=>⟨t,_,cT,_,cL,mC,_,cD,oR,rfl,hT,ES,NC,rfl,rfl,rfl⟩)⟩,sOZ,ar,_,aa⟩
 ·obtain rfl:j=w:=oZ
  obtain ⟨t,jj,cT,kB,cL,mC,Cy,cD,oR,rfl,hT,ES,NC,rfl,rfl,rfl⟩:=h1 oZ
  subst jL
  have hall:=JK.all
  have zt:aC [(mC,ax ((ls.map iQ)++replicate (ls.length - ls.length) (.pointer none)) 110)] 110 1 (.slice (some ⟨mC,0,none⟩) ls.length ls.length) ls.length (ls.map iQ):=⟨by simp,fun u hu=>by
   obtain ⟨o,_,rfl⟩:=mem_map.1 hu
   rcases o with _ | x <;> rfl,.inr ⟨mC,ls.length,replicate (ls.length - ls.length) (.pointer none),rfl,rfl,by omega,by simp only [maxLen];omega,by rw [length_map,length_replicate];omega⟩⟩
  have iy:=JK.ok (R:=R) (n:=n) fun k hk=>xg k hk
  rw [Bh] at hL
  have Nl:=ET p qs t pool tp pr n ls ok hall R C L hC iy hL jj cT DT hT kB cL DL _ ls.length _ ES zt (.slice Cy 1 cD) (DD++[(oR,ax ((qs.take ls.length).map ptr++replicate (ls.length - ls.length) (.pointer none)) 56)]) 1
  refine gc Nl ?_
  rintro _ _ ⟨rfl,V,hV,rfl⟩
  have hrr:∀i x,ls[i]? = some (some x)->iD R n x.i (ring i):=fun i x hx=>by
   obtain ⟨a,q,h1,h2⟩:=JK i (List.getElem?_eq_some_iff.1 hx).1
   rw [hx] at h2;cases h2
   exact hr i (List.getElem?_eq_some_iff.1 hx).1
  refine gc (Mc T fr p qs t pool tp pr n ls 1 V hV ok hall R C hC iy db ring hrr U hU Hk ey oZ) ?_
  rintro _ _ ⟨V',Xu,rfl⟩
  refine gz ?_
  exact fin ⟨t,V',ls,rfl,rfl,JK,Xu,rfl⟩ aa
end Go.Proofs.YtpabnmeponmonaaGreatDoor
namespace Go.Sl
section
variable {β:Type}
def aJ (M:List (Int×β))(q:Int):Option β:=(M.find? fun e=>e.1==q).map (·.2)
def eu:List (Int×β)->Int->β->List (Int×β)
 | [],q,v=>[(q,v)]
 | (p,u) :: L,q,v=>if p=q then (p,v) :: L else (p,u) :: eu L q v
def pR (M:List (Int×β))(q:Int):List (Int×β):=M.filter fun e=>e.1 != q
def fo (R:Value->β->Chunk->Prop):List (Int×Value)->List (Int×β)->Chunk->Prop
 | [],[],V=>V=[]
 | (q,v) :: L,(g,x) :: M,V=>q=g/\∃D V',R v x D/\fo R L M V'/\V=D++V'
 | _,_,_=>False
theorem bV {p q:Int}{x:β}{M:List (Int×β)}(h:p≠q):aJ ((p,x) :: M) q=aJ M q:=by simp [aJ,h]
theorem dz {q:Int}{x:β}{M:List (Int×β)}:aJ ((q,x) :: M) q=some x:=by simp [aJ]
theorem iI (M:List (Int×β))(q p:Int)(x:β):aJ (eu M q x) p=if q=p then some x else aJ M p:=by
 induction M with
 | nil=>by_cases h:q=p <;> simp [eu,aJ,h]
 | cons e r ih =>
  obtain ⟨k,y⟩:=e
  unfold eu
  split
  ·rename_i c;subst c
   by_cases h:k=p
   ·subst h;rw [dz,if_pos rfl]
   ·rw [bV h,if_neg h,bV h]
  ·rename_i c
   by_cases h:k=p
   ·subst h;rw [dz,if_neg (Ne.symm c),dz]
   ·rw [bV h,ih,bV h]
theorem Bm (M:List (Int×β))(q p:Int):aJ (pR M q) p=if q=p then none else aJ M p:=by
 induction M with
 | nil=>simp [pR,aJ]
 | cons e r ih =>
  obtain ⟨k,y⟩:=e
  unfold pR at *
  rw [filter_cons]
  by_cases c:k=q
  ·subst c
   rw [if_neg (by simp),ih]
   by_cases h:k=p
   ·rw [if_pos h,if_pos h]
   ·rw [if_neg h,if_neg h,bV h]
  ·rw [if_pos (by simpa using c)]
   by_cases h:k=p
   ·subst h;rw [dz,if_neg (Ne.symm c),dz]
   ·rw [bV h,ih,bV h]
theorem aI {M:List (Int×β)}{q:Int}{x:β}(h:aJ M q=some x):(q,x)∈M:=by
 unfold aJ at h
 cases hf:M.find? fun e=>e.1==q with
 | none=>rw [hf] at h;cases h
 | some e =>
  rw [hf] at h
  have h1:=mem_of_find?_eq_some hf
  have h2:=find?_some hf
  simp only [beq_iff_eq] at h2
  simp only [Option.map_some,Option.some.injEq] at h
  rw [<-h2,<-h];exact h1
theorem q9 {M:List (Int×β)}{q:Int}(h:aJ M q=none):q∉M.map (·.1):=by
 intro hm
 obtain ⟨e,he,rfl⟩:=mem_map.1 hm
 simp only [aJ,Option.map_eq_none_iff,find?_eq_none] at h
 exact h e he (by simp)
theorem fu {M:List (Int×β)}(hn:(M.map (·.1)).Nodup){q:Int}{x:β}(h:(q,x)∈M):aJ M q=some x:=by
 induction M with
 | nil=>cases h
 | cons e r ih =>
  obtain ⟨k,y⟩:=e
  rw [map_cons,nodup_cons] at hn
  rcases List.mem_cons.1 h with h | h
  ·cases h;exact dz
  ·rw [bV (by rintro rfl;exact hn.1 (mem_map_of_mem (f:=(·.1)) h))];exact ih hn.2 h
variable {R:Value->β->Chunk->Prop}
theorem fo.keys:∀ {L:List (Int×Value)} {M:List (Int×β)} {V:Chunk},fo R L M V->M.map (·.1)=L.map (·.1)
 | [],[],_,_=>rfl
 | [],_ :: _,_,h=>h.elim
 | _ :: _,[],_,h=>h.elim
 | (q,v) :: L,(g,x) :: M,V,h=>by
  obtain ⟨rfl,D,V', -,hV,rfl⟩:=h
  simp only [map_cons,hV.keys]
theorem fo.look (q:Int):∀ {L:List (Int×Value)} {M:List (Int×β)} {V:Chunk},fo R L M V ->
  (kx L q=none/\aJ M q=none/\∀v x D,R v x D->fo R (iw L q v) (eu M q x) (V++D)) \/
  ∃v x V1 D V2,kx L q=some v/\aJ M q=some x/\V=V1++(D++V2)/\R v x D/\(∀x' D',R v x' D'->fo R L (eu M q x') (V1++(D'++V2)))/\∀v' x' D',R v' x' D'->fo R (iw L q v') (eu M q x') (V1++(D'++V2))
 | [],[],V,h=>.inl ⟨rfl,rfl,fun v x D hD=>by obtain rfl:V=[]:=h;exact ⟨rfl,D,[],hD,rfl,by simp⟩⟩
 | [],_ :: _,_,h=>h.elim
 | _ :: _,[],_,h=>h.elim
 | (p,v) :: L,(g,x) :: M,V,h=>by
  obtain ⟨rfl,D,V',hD,hV,rfl⟩:=h
  by_cases c:p=q
  ·subst c
   refine .inr ⟨v,x,[],D,V',by simp [kx],dz,rfl,hD,fun x' D' eJ => ?_,fun v' x' D' eJ => ?_⟩
   ·simp only [eu,if_pos];exact ⟨rfl,D',V',eJ,hV,rfl⟩
   ·simp only [eu,iw,if_pos];exact ⟨rfl,D',V',eJ,hV,rfl⟩
  ·rcases fo.look q hV with ⟨h1,h2,h3⟩ | ⟨u,y,V1,E,V2,h1,h2,rfl,h3,h4,h5⟩
   ·refine .inl ⟨by simpa [kx,c] using h1,by rw [bV c];exact h2,fun v' x' D' eJ => ?_⟩
    simp only [iw,eu,if_neg c]
    exact ⟨rfl,D,V'++D',hD,h3 v' x' D' eJ,by rw [append_assoc]⟩
   ·refine .inr ⟨u,y,D++V1,E,V2,by simpa [kx,c] using h1,by rw [bV c];exact h2,by rw [append_assoc],h3,fun x' D' eJ => ?_,fun v' x' D' eJ => ?_⟩
    ·simp only [eu,if_neg c]
     exact ⟨rfl,D,_,hD,h4 x' D' eJ,by rw [append_assoc]⟩
    ·simp only [iw,eu,if_neg c]
     exact ⟨rfl,D,_,hD,h5 v' x' D' eJ,by rw [append_assoc]⟩
theorem fo.cut {q:Int}{v:Value}:∀ {L:List (Int×Value)} {M:List (Int×β)} {V:Chunk},fo R L M V->(L.map (·.1)).Nodup->kx L q=some v ->
  ∃x V1 D V2,aJ M q=some x/\V=V1++(D++V2)/\R v x D/\fo R (iN L q) (pR M q) (V1++V2)
 | [],_,V,_,_,hl=>by simp [kx] at hl
 | _ :: _,[],V,h,_,_=>h.elim
 | (p,u) :: L,(j,y) :: M,V,h,hn,hl=>by
  obtain ⟨rfl,D,V',hD,hV,rfl⟩:=h
  rw [map_cons,nodup_cons] at hn
  by_cases c:p=q
  ·subst c
   have e:u=v:=by simpa [kx] using hl
   subst e
   refine ⟨y,[],D,V',dz,rfl,hD, ?_⟩
   have h1:iN ((p,u) :: L) p=L:=by
    simp only [iN,filter_cons,bne_self_eq_false,Bool.false_eq_true,if_false]
    rw [filter_eq_self];intro e he;simpa using fun h':e.1=p=>hn.1 (by rw [<-h'];exact mem_map_of_mem (f:=(·.1)) he)
   have h2:pR ((p,y) :: M) p=M:=by
    simp only [pR,filter_cons,bne_self_eq_false,Bool.false_eq_true,if_false]
    rw [filter_eq_self];intro e he;simpa using fun h':e.1=p=>hn.1 (by rw [<-hV.keys,<-h'];exact mem_map_of_mem (f:=(·.1)) he)
   rw [h1,h2];exact hV
  ·obtain ⟨x,V1,E,V2,h1,rfl,h3,h4⟩:=fo.cut hV hn.2 (by simpa [kx,c] using hl)
   refine ⟨x,D++V1,E,V2,by rw [bV c];exact h1,by rw [append_assoc],h3, ?_⟩
   have e1:iN ((p,u) :: L) q=(p,u) :: iN L q:=by simp [iN,c]
   have e2:pR ((p,y) :: M) q=(p,y) :: pR M q:=by simp [pR,c]
   rw [e1,e2]
   exact ⟨rfl,D,_,hD,h4,by rw [append_assoc]⟩
end
structure Ob where
 used:Bool
 size:Nat
 root:Pt
 aA:List Pt
 index:List Pt
 fresh:List (Int×List UInt8)
 clean:Bool
def Ob.slot (o:Ob):fv:=⟨o.used,o.size,o.root⟩
def aV (size i:Nat):Nat:=min 1024 (size - i*1024)
def dV (n:Nat)(b:List UInt8):List UInt8:=b.take n++replicate (n - b.length) 0
theorem ec (n:Nat)(b:List UInt8):(dV n b).length=n:=by simp [dV];omega
def Ob.raw (rd:Pt->List UInt8)(o:Ob)(i:Nat):List UInt8:=match aJ o.fresh i with
 | some b=>b
 | none=>match o.aA[i]? with
  | some p=>if p=ai then [] else rd p
  | none=>[]
def Ob.gB (rd:Pt->List UInt8)(o:Ob)(i:Nat):List UInt8:=dV (aV o.size i) (o.raw rd i)
end Go.Sl
namespace Go.Proofs.YtpabnmeponmonaaGreatDoor
abbrev bU (tk:Nat)(vA:Value)(ra rd ae note:Nat):Obj:=ax [ptr tk,vA,.map (some ra),.map (some rd),.int .u64 ae,.int .u64 note,.int .i64 0] 74
abbrev yx (u:Bool)(n:Nat)(x:Pt)(vP vI:Value)(r:Nat)(cl:Bool):Obj:=ax [.bool u,.int .i64 n,.int .i64 x.top,.int .i64 x.at_,.int .i64 x.bytes,.int .u64 x.bg,.int .i64 x.kind,.int .u64 x.a,.int .u64 x.b,.int .u64 x.c,.int .u64 x.d,vP,vI,.map (some r),.bool cl] 150
def mf (v:Value)(b:List UInt8)(D:Chunk):Prop:=aC D 5 1 v b.length (au b)
def QI (v:Value)(l:List Pt)(D:Chunk):Prop:=aC D 121 9 v l.length (aR l)
def XU (a:Nat)(o:Ob)(A:Chunk):Prop:=∃jM cP DP eb cI DI r LF CF VF,
 aC DP 121 9 (.slice jM o.aA.length cP) o.aA.length (aR o.aA)/\aC DI 121 9 (.slice eb o.index.length cI) o.index.length (aR o.index) /\
 Mp r .i64 LF CF/\fo mf LF o.fresh VF/\A=[(a,yx o.used o.size o.root (.slice jM o.aA.length cP) (.slice eb o.index.length cI) r o.clean)]++(DP++(DI++(CF++VF)))
def yd (v:Value)(o:Ob)(A:Chunk):Prop:=∃a,v=ptr a/\XU a o A
end Go.Proofs.YtpabnmeponmonaaGreatDoor
namespace Go.Sl
theorem tG (pr:Bool){w:Nat}(hw:1<=w/\w<=5)(hp:pr=true->3<=w):8<=aL pr w 1024/\aL pr w 1024<=12:=by
 have h:w=1\/w=2\/w=3\/w=4\/w=5:=oZ
 cases pr
 ·simp only [aL,Bool.false_eq_true,if_false];decide
 ·have:=hp rfl
  rcases h with rfl | rfl | rfl | rfl | rfl
  ·omega
  ·omega
  ·decide
  ·decide
  ·decide
theorem ir (pr:Bool){w n:Nat}(hw:1<=w/\w<=5)(hn:324<=n/\n<=2048):1<=bD pr w n/\bD pr w n<=10240:=by
 have h:w=1\/w=2\/w=3\/w=4\/w=5:=oZ
 unfold bD
 split <;> rcases h with rfl | rfl | rfl | rfl | rfl <;> omega
end Go.Sl
namespace Go.Proofs.YtpabnmeponmonaaGreatDoor
section
variable (s t pool:Nat)(tp:Tp)(pr:Bool)(n:Nat)(ls:List (Option Lv))(no:Nat)(V:Chunk)(hV:iZ t pool tp pr n ls no V)(ok:dj tp pr n ls.length)(dq:n<=2048)(vA:Value)(ra rd ae note:Nat)
theorem j1 (k:Int):Ct 112 [.int .i64 k] [] fun u Bs=>u = .bool (decide (1<=k/\k<=112))/\Bs=[]:=by
 refine st func112 fun w0 => ?_
 refine gg ?_ ?_ <;> intro h1
 ·refine gz ?_
  exact fin ⟨congrArg _ (decide_eq_decide.2 oZ),rfl⟩ aa
 ·refine gz ?_
  exact fin ⟨congrArg _ (decide_eq_false oZ).symm,rfl⟩ aa
include hV ok dq
theorem Bn:Ct 43 [ptr t] [V] fun u Bs=>∃ad c D,u = .slice ad 1 c/\aC D 3 1 u 1 [.int .i64 (bD pr ls.length n:Nat)]/\Bs=[D,V]:=by
 have _:=dq
 have bu:=JB t pool tp pr n ls no V hV ok
 refine st func43 fun w0 => ?_
 refine gc (AV t pool tp pr n ls no V hV) ?_
 rintro _ _ ⟨ad,c,D,rfl,hD,rfl⟩
 refine gl [0,6,7] (fun ((i,v3,_):Nat×Value×Chunk)=>[(8,.int .i64 i),(3,v3)]) (fun (_,_,E)=>[E,V]) (fun (i,v3,E)=>i<=1/\(i=0->v3 = .slice none 0 0/\E=[])/\(i=1->∃ad c,v3 = .slice ad 1 c/\aC E 3 1 v3 1 [.int .i64 (bD pr ls.length n:Nat)])) (fun (i,_)=>1 - i) (0,.slice none 0 0,[]) ⟨by omega,fun _=>⟨rfl,rfl⟩,fun h=>by omega⟩ ?_
 rintro ⟨i,v3,E⟩ ⟨hi,h0,h1⟩
 refine gi ?_ ?_ <;> intro br
 ·obtain rfl:i=0:=oZ
  obtain ⟨rfl,rfl⟩:=h0 rfl
  refine gc bu ?_
  rintro _ _ ⟨rfl,rfl⟩
  refine gm ?_;intro b15
  refine gp ?_;intro ia c3 E hE
  refine gn ?_
  exact ⟨(1,_,E),⟨by omega,fun h=>by omega,fun _=>⟨ia,c3,rfl,hE⟩⟩,sOZ,ar,_,aa⟩
 ·obtain rfl:i=1:=oZ
  obtain ⟨ia,c3,rfl,hE⟩:=h1 rfl
  refine gz ?_
  exact fin ⟨ia,c3,E,rfl,hE,rfl⟩ aa
theorem aao:Ct 189 [ptr s] [[(s,bU t vA ra rd ae note)],V] fun u Bs=>∃ad c D,u = .slice ad 1 c/\aC D 3 1 u 1 [.int .i64 (aL pr ls.length 1024:Nat)]/\Bs=[D,[(s,bU t vA ra rd ae note)],V]:=by
 have _:=dq
 have bu:=AW t pool tp pr n ls no V hV ok 1024 oZ
 refine st func189 fun w0 => ?_
 refine gc (AV t pool tp pr n ls no V hV) ?_
 rintro _ _ ⟨ad,c,D,rfl,hD,rfl⟩
 refine gl [0,9,10] (fun ((i,v3,_):Nat×Value×Chunk)=>[(11,.int .i64 i),(3,v3)]) (fun (_,_,E)=>[E,V]) (fun (i,v3,E)=>i<=1/\(i=0->v3 = .slice none 0 0/\E=[])/\(i=1->∃ad c,v3 = .slice ad 1 c/\aC E 3 1 v3 1 [.int .i64 (aL pr ls.length 1024:Nat)])) (fun (i,_)=>1 - i) (0,.slice none 0 0,[]) ⟨by omega,fun _=>⟨rfl,rfl⟩,fun h=>by omega⟩ ?_
 rintro ⟨i,v3,E⟩ ⟨hi,h0,h1⟩
 refine gi ?_ ?_ <;> intro br
 ·obtain rfl:i=0:=oZ
  obtain ⟨rfl,rfl⟩:=h0 rfl
  refine gc bu ?_
  rintro _ _ ⟨rfl,rfl⟩
  refine gm ?_;intro b15
  refine gp ?_;intro ia c3 E hE
  refine gn ?_
  exact ⟨(1,_,E),⟨by omega,fun h=>by omega,fun _=>⟨ia,c3,rfl,hE⟩⟩,sOZ,ar,_,aa⟩
 ·obtain rfl:i=1:=oZ
  obtain ⟨ia,c3,rfl,hE⟩:=h1 rfl
  refine gz ?_
  exact fin ⟨ia,c3,E,rfl,hE,rfl⟩ aa
theorem Bo:Ct 44 [ptr s] [[(s,bU t vA ra rd ae note)],V] fun u Bs=>u = .int .i64 (bD pr ls.length n / aL pr ls.length 1024:Nat)/\Bs=[[(s,bU t vA ra rd ae note)],V]:=by
 have bu:=JB t pool tp pr n ls no V hV ok
 have eF:=AW t pool tp pr n ls no V hV ok 1024 oZ
 have h1:=tG pr ok.hw ok.hp
 have h2:=ir pr ok.hw ⟨ok.hn.1,dq⟩
 have hq:bD pr ls.length n / aL pr ls.length 1024<=10240:=Nat.le_trans (Nat.div_le_self _ _) h2.2
 have aap:=AV t pool tp pr n ls no V hV
 generalize bD pr ls.length n=z at *
 generalize aL pr ls.length 1024=d at *
 refine st func44 fun w0 => ?_
 refine gc aap ?_
 rintro _ _ ⟨ad,c,D,rfl,hD,rfl⟩
 refine gl [0,9,10] (fun ((i,q):Nat×Nat)=>[(11,.int .i64 i),(3,.int .i64 q)]) (fun _=>[V]) (fun (i,q)=>i<=1/\q=if i=0 then 0 else z / d) (fun (i,_)=>1 - i) (0,0) ⟨by omega,rfl⟩ ?_
 rintro ⟨i,q⟩ ⟨hi,QB⟩
 refine gi ?_ ?_ <;> intro br
 ·obtain rfl:i=0:=oZ
  obtain rfl:q=0:=QB
  refine gd [2,4,8,12,16,20,28,32,36,40,44,25,51,54,58,62] ?_
  refine gc bu ?_
  rintro _ _ ⟨rfl,rfl⟩
  refine gc eF ?_
  rintro _ _ ⟨rfl,rfl⟩
  refine gn ?_
  exact ⟨(1,z / d),⟨by omega,rfl⟩,sOZ,ar,_,aa⟩
 ·obtain rfl:i=1:=oZ
  rw [if_neg oZ] at QB
  subst QB
  refine gz ?_
  exact fin ⟨rfl,rfl⟩ aa
theorem aaq:Ct 177 [ptr s] [[(s,bU t vA ra rd ae note)],V] fun u Bs=>u = .int .i64 (bD pr ls.length n / aL pr ls.length 1024 / 4 - 10:Nat)/\Bs=[[(s,bU t vA ra rd ae note)],V]:=by
 have fS:=Bo s t pool tp pr n ls no V hV ok dq vA ra rd ae note
 have h2:=ir pr ok.hw ⟨ok.hn.1,dq⟩
 have hq:bD pr ls.length n / aL pr ls.length 1024<=10240:=Nat.le_trans (Nat.div_le_self _ _) h2.2
 generalize bD pr ls.length n / aL pr ls.length 1024=z at *
 refine st func177 fun w0 => ?_
 refine gc fS ?_
 rintro _ _ ⟨rfl,rfl⟩
 have hw:IntKind.i64.wrap (((z / 4:Nat):Int) - 10)=((z / 4:Nat):Int) - 10:=IntWalk.i64_in _ oZ
 refine go ?_
 rw [show max (0:Int) (((z / 4:Nat):Int) - 10)=((z / 4 - 10:Nat):Int) by omega]
 refine gz ?_
 exact fin ⟨rfl,rfl⟩ aa
theorem JL (x:Pt)(h0:x.top=0):Ct 79 [ptr s,x.agg] [[(s,bU t vA ra rd ae note)],V] fun u Bs=>u = .agg #[.int .i64 0,.int .i64 x.at_,.int .i64 (aL pr ls.length 1024:Nat)]/\Bs=[[(s,bU t vA ra rd ae note)],V]:=by
 have _:=dq
 have eF:=AW t pool tp pr n ls no V hV ok 1024 oZ
 obtain ⟨a1,a2,a3,a4,a5,a6,a7,a8,a9⟩:=x
 simp only at h0
 subst h0
 refine st func79 fun w0 => ?_
 refine ga ?_;intro b3
 refine ga ?_;intro b4
 refine rQ [[(s,bU t vA ra rd ae note)],[(b3,ax [.int .i64 0,.int .i64 a2,.int .i64 a3,.int .u64 a4,.int .i64 a5,.int .u64 a6,.int .u64 a7,.int .u64 a8,.int .u64 a9] 121)]] [0,4,8,12,16,20,24,28,32,36,41,44,48,55] ?_
 refine gc eF ?_
 rintro _ _ ⟨rfl,rfl⟩
 refine gz ?_
 exact fin ⟨rfl,rfl⟩ aa
end
end Go.Proofs.YtpabnmeponmonaaGreatDoor
