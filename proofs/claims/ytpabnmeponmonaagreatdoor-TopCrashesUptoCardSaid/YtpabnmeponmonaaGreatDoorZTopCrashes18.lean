/-
  18.
-/
import Derived.Test.YtpabnmeponmonaaGreatDoorZTopCrashes17
set_option maxRecDepth 10000
set_option maxHeartbeats 4000000
open List Go.Proofs.Tryz Go.Sl
namespace Go.Sl
theorem bW {l m:Chunk}(h:∀c:Chunk->Nat,(∀a b,c (a++b)=c a+c b)->c []=0->c l=c m:=by intro c h1 h0;simp only [flatten_cons,flatten_nil,h1,h0,Go.Proofs.YtpabnmeponmonaaGreatDoor.Rg.ch] <;> omega):l.Perm m:=by
 classical
 exact perm_iff_count.2 fun x=>h (fun l=>List.count x l) (fun a b=>count_append) rfl
end Go.Sl
namespace Go.Proofs.YtpabnmeponmonaaGreatDoor
theorem Ct.to {g:FuncId}{args:List Value}{As:List Chunk}{P P':Value->List Chunk->Prop}(h:Ct g args As P)(k:∀u Bs,P u Bs->P' u Bs):Ct g args As P':=fun w H=>(h w H).mono fun u _ ⟨Bs,hp,ht⟩=>⟨Bs,k u Bs hp,ht⟩
theorem Ct.dr {g:FuncId}{args:List Value}{As Ls:List Chunk}{v:Value}{P':Value->List Chunk->Prop}(Rs:Chunk)(h:Ct g args As fun u Bs=>u=v/\Bs=As)(s:Ls.flatten.Perm (As.flatten++Rs))(k:P' v Ls):Ct g args Ls P':=h.on (Rs:=Rs) s fun u Bs ⟨e,e2⟩=>⟨Ls,[],e ▸ k,by rw [e2,show Ls.flatten++([]:Chunk)=Ls.flatten from append_nil _];exact s.symm⟩
theorem ac9 {L:List (Int×Value)}{all:List (Int×Ob)}{V:Chunk}(h:fo yd L all V){k:Int}{o:Ob}(hk:aJ all k=some o):(o.fresh.map (·.1)).Nodup:=by
 rcases h.look k with ⟨-,h2, -⟩ | ⟨v,x,V1,D,V2, -,h2, -,⟨a, -,jM,cP,DP,eb,cI,DI,r,LF,CF,VF, -, -,h3,h4, -⟩, -⟩
 ·rw [hk] at h2;cases h2
 ·rw [hk] at h2;cases h2
  rw [h4.keys];exact h3.nodup
def xJ (T:TypeId)(fr:Nat×Nat)(p:Nat)(qs:List Nat)(tp:Tp)(pr:Bool)(n:Nat)(ls:List (Option Lv))(s:Nat)(R:Rk)(no ae note:Nat)(all:List (Int×Ob))(od:List (Int×List Pt))(x:Rm)(S:Chunk):Prop :=
 ∃t al ra rd C V LA CA VA Ld CD VD Al,iZ t 11 tp pr n ls no V/\bj p qs R C/\Mp ra .i64 LA CA/\fo yd LA all VA/\Mp rd .i64 Ld CD/\fo QI Ld od VD/\qg al ((bD pr ls.length n:Nat):Int) ((aL pr ls.length 1024:Nat):Int) x Al /\
  S=[(s,bU t (ptr al) ra rd ae note)]++(gK T fr++(C++(V++(CA++(VA++(CD++(VD++Al)))))))
structure StF (qs:List Nat)(tp:Tp)(pr:Bool)(n q:Nat)(ls:List (Option Lv))(R:Rk)(pm:List dg)(all:List (Int×Ob))(l:List aw):Prop where
 ok:dj tp pr n ls.length
 n2:n<=2048
 ho:dE qs R n ls
 hall:∀x∈ls,x≠none
 on:R.on
 rel:bM pm all l
 NN:∀(o:Ob) (N:Nat),dw pm N o->∀x∈o.aA,x≠ai->Mf R ls pr n x (ke pm x)
 q:bD pr ls.length n / aL pr ls.length 1024 / 4=q
section
variable {T:TypeId}{fr:Nat×Nat}{p:Nat}{qs:List Nat}{tp:Tp}{pr:Bool}{n q:Nat}{ls:List (Option Lv)}{s:Nat}{R:Rk}{no ae note:Nat}{all:List (Int×Ob)}{od:List (Int×List Pt)}{rm:Rm}{S:Chunk}{pm:List dg}{l:List aw}
theorem xJ.kn (h:xJ T fr p qs tp pr n ls s R no ae note all od rm S):(all.map (·.1)).Nodup:=by
 obtain ⟨t,al,ra,rd,C,V,LA,CA,VA,Ld,CD,VD,Al, -, -,h1,h2, -⟩:=h
 rw [h2.keys];exact h1.nodup
theorem xJ.fn (h:xJ T fr p qs tp pr n ls s R no ae note all od rm S){k:Int}{o:Ob}(hk:aJ all k=some o):(o.fresh.map (·.1)).Nodup:=by
 obtain ⟨t,al,ra,rd,C,V,LA,CA,VA,Ld,CD,VD,Al, -, -,h1,h2, -⟩:=h
 exact ac9 h2 hk
variable (h:xJ T fr p qs tp pr n ls s R no ae note all od rm S)(f:StF qs tp pr n q ls R pm all l)
include h
theorem BQ (k a:Int)(ad:Option Addr)(m c:Nat)(O:Chunk)(hb:¬(1<=k/\k<=112)\/a<0\/65536<a\/65536 - a<m):Ct 48 [ptr s,.int .i64 k,.int .i64 a,.slice ad m c] [S,O] fun u Bs=>u = .int .i64 1/\∃S',S'=S/\Bs=[S',O]:=by
 obtain ⟨t,al,ra,rd,C,V,LA,CA,VA,Ld,CD,VD,Al,hV,hC,hA,hG,hD,hP,hL,rfl⟩:=h
 exact (HN s t (ptr al) ra rd ae note k a ad m c hb).dr (gK T fr++(C++(V++(CA++(VA++(CD++(VD++(Al++O)))))))) bW ⟨rfl,_,rfl,rfl⟩
theorem BR (k z:Int)(hb:z<0\/65536<z):Ct 50 [ptr s,.int .i64 k,.int .i64 z] [S] fun u Bs=>u = .int .i64 1/\∃S',S'=S/\Bs=[S']:=by
 obtain ⟨t,al,ra,rd,C,V,LA,CA,VA,Ld,CD,VD,Al,hV,hC,hA,hG,hD,hP,hL,rfl⟩:=h
 exact (HO t s (ptr al) ra rd ae note k z hb).dr (gK T fr++(C++(V++(CA++(VA++(CD++(VD++Al))))))) bW ⟨rfl,_,rfl,rfl⟩
theorem tN (k:Int)(z:Nat)(hz:z<=65536)(hb:(dH all k).2≠0):Ct 50 [ptr s,.int .i64 k,.int .i64 z] [S] fun u Bs=>u = .int .i64 (dH all k).2/\∃S',S'=S/\Bs=[S']:=by
 obtain ⟨t,al,ra,rd,C,V,LA,CA,VA,Ld,CD,VD,Al,hV,hC,hA,hG,hD,hP,hL,rfl⟩:=h
 exact (Mo t s (ptr al) ra rd ae note LA CA hA all VA hG k z hz hb).dr (gK T fr++(C++(V++(CD++(VD++Al))))) bW ⟨rfl,_,rfl,rfl⟩
theorem FP (k z:Int)(hb:¬(1<=z/\z<=112)):Ct 52 [ptr s,.int .i64 k,.int .i64 z] [S] fun u Bs=>u = .int .i64 1/\∃S',S'=S/\Bs=[S']:=by
 obtain ⟨t,al,ra,rd,C,V,LA,CA,VA,Ld,CD,VD,Al,hV,hC,hA,hG,hD,hP,hL,rfl⟩:=h
 exact (Mt t s (ptr al) ra rd ae note k z hb).dr (gK T fr++(C++(V++(CA++(VA++(CD++(VD++Al))))))) bW ⟨rfl,_,rfl,rfl⟩
theorem xK (k z:Int)(hz:1<=z/\z<=112)(hb:(dH all k).2≠0):Ct 52 [ptr s,.int .i64 k,.int .i64 z] [S] fun u Bs=>u = .int .i64 (dH all k).2/\∃S',S'=S/\Bs=[S']:=by
 obtain ⟨t,al,ra,rd,C,V,LA,CA,VA,Ld,CD,VD,Al,hV,hC,hA,hG,hD,hP,hL,rfl⟩:=h
 exact (Q4 t s (ptr al) ra rd ae note LA CA hA all VA hG k z hz hb).dr (gK T fr++(C++(V++(CD++(VD++Al))))) bW ⟨rfl,_,rfl,rfl⟩
theorem BS (k:Int)(hk:1<=k/\k<=112){o:Ob}(hl:aJ all k=some o):Ct 52 [ptr s,.int .i64 k,.int .i64 k] [S] fun u Bs=>u = .int .i64 0/\∃S',S'=S/\Bs=[S']:=by
 obtain ⟨t,al,ra,rd,C,V,LA,CA,VA,Ld,CD,VD,Al,hV,hC,hA,hG,hD,hP,hL,rfl⟩:=h
 exact (HQ t s (ptr al) ra rd ae note LA CA hA all VA hG k hk o hl).dr (gK T fr++(C++(V++(CD++(VD++Al))))) bW ⟨rfl,_,rfl,rfl⟩
theorem Wp (k:Int):Ct 54 [ptr s,.int .i64 k] [S] fun u Bs=>u = .int .i64 (dH all k).2/\∃S',xJ T fr p qs tp pr n ls s R no ae note (if (dH all k).2=0 then pR all k else all) od rm S'/\Bs=[S']:=by
 obtain ⟨t,al,ra,rd,C,V,LA,CA,VA,Ld,CD,VD,Al,hV,hC,hA,hG,hD,hP,hL,rfl⟩:=h
 refine (Vn s t (ptr al) ra rd ae note LA CA hA all VA hG k).on (Rs:=gK T fr++(C++(V++(CD++(VD++Al))))) bW ?_
 rintro u Bs ⟨rfl,L',C',V',h1,h2,rfl⟩
 exact ⟨_,[],⟨rfl,_,⟨t,al,ra,rd,C,V,L',C',V',Ld,CD,VD,Al,hV,hC,h1,h2,hD,hP,hL,rfl⟩,rfl⟩,bW⟩
theorem Wq (k:Int):Ct 32 [ptr s,.int .i64 k] [S] fun u Bs=>u = .tuple #[.int .i64 (dH all k).1,.int .i64 (dH all k).2]/\Bs=[S]:=by
 obtain ⟨t,al,ra,rd,C,V,LA,CA,VA,Ld,CD,VD,Al,hV,hC,hA,hG,hD,hP,hL,rfl⟩:=h
 exact (JN s t (ptr al) ra rd ae note LA CA hA all VA hG k).dr (gK T fr++(C++(V++(CD++(VD++Al))))) bW ⟨rfl,rfl⟩
theorem FQ (k a m:Int)(hb:a<0\/m<0):Ct 33 [ptr s,.int .i64 k,.int .i64 a,.int .i64 m] [S] fun u Bs=>u = .tuple #[.slice none 0 0,.int .i64 1]/\Bs=[S]:=by
 obtain ⟨t,al,ra,rd,C,V,LA,CA,VA,Ld,CD,VD,Al,hV,hC,hA,hG,hD,hP,hL,rfl⟩:=h
 exact (Mj t s (ptr al) ra rd ae note k a m hb).dr (gK T fr++(C++(V++(CA++(VA++(CD++(VD++Al))))))) bW ⟨rfl,rfl⟩
theorem xL (k:Int)(a m:Nat)(hb:(dH all k).2≠0):Ct 33 [ptr s,.int .i64 k,.int .i64 a,.int .i64 m] [S] fun u Bs=>u = .tuple #[.slice none 0 0,.int .i64 (dH all k).2]/\Bs=[S]:=by
 obtain ⟨t,al,ra,rd,C,V,LA,CA,VA,Ld,CD,VD,Al,hV,hC,hA,hG,hD,hP,hL,rfl⟩:=h
 exact (QU t s (ptr al) ra rd ae note LA CA hA all VA hG k a m hb).dr (gK T fr++(C++(V++(CD++(VD++Al))))) bW ⟨rfl,rfl⟩
theorem FR (k:Int)(g:Nat)(hb:(dH all k).2≠0):Ct 62 [ptr s,.int .i64 k,.int .u64 g] [S] fun u Bs=>u = .tuple #[.slice none 0 0,.int .i64 (dH all k).2]/\Bs=[S]:=by
 obtain ⟨t,al,ra,rd,C,V,LA,CA,VA,Ld,CD,VD,Al,hV,hC,hA,hG,hD,hP,hL,rfl⟩:=h
 exact (Mm s t (ptr al) ra rd ae note LA CA hA all VA hG k g hb).dr (gK T fr++(C++(V++(CD++(VD++Al))))) bW ⟨rfl,rfl⟩
include f
theorem yH (k:Nat)(hk:1<=k/\k<=112)(a m:Nat)(Mk:a+m<=65536)(ad:Option Addr)(c:Nat)(O:Chunk)(hf:cQ l k (max (lG l k).b.length (a+m)) (q - 10)=false):Ct 48 [ptr s,.int .i64 k,.int .i64 a,.slice ad m c] [S,O] fun u Bs=>u = .int .i64 3/\∃S',S'=S/\Bs=[S',O]:=by
 obtain ⟨t,al,ra,rd,C,V,LA,CA,VA,Ld,CD,VD,Al,hV,hC,hA,hG,hD,hP,hL,rfl⟩:=h
 have hi:=f.rel.aaY k
 refine (E0 t 11 tp pr n ls no V hV f.ok f.n2 s (ptr al) ra rd ae note LA CA hA all VA hG (fun e he=>(f.rel.each e he).2.2.2.1) f.rel.jd k oZ a m Mk ad c ?_).dr (gK T fr++(C++(CD++(VD++(Al++O))))) bW ⟨rfl,_,rfl,rfl⟩
 rw [f.rel.fits,hi.2.2.2,f.q];exact hf
theorem Sk (k:Nat)(hk:1<=k/\k<=112)(a m:Nat)(Mk:a+m<=65536)(O:Chunk)(mJ:Option Addr)(cb:Nat)(b:List UInt8)(dP:b.length=m)(hO:Rd O 1 (.slice mJ m cb) m (au b))(ME:m<=cb)(hf:cQ l k (max (lG l k).b.length (a+m)) (q - 10)=true) :
  Ct 48 [ptr s,.int .i64 k,.int .i64 a,.slice mJ m cb] [S,O] fun u Bs=>u = .int .i64 0/\∃S',(∃cf,(∀q,aJ cf q=if df a m q then some (j8 ((Ob.at all k).byte (ke pm)) a b (max (Ob.at all k).size (a+m)) q.toNat) else aJ (Ob.at all k).fresh q) /\
   xJ T fr p qs tp pr n ls s R no ae note (eu all k { Ob.at all k with size:=max (Ob.at all k).size (a+m),fresh:=cf,clean:=false }) od rm S')/\Bs=[S',O]:=by
 obtain ⟨t,al,ra,rd,C,V,LA,CA,VA,Ld,CD,VD,Al,hV,hC,hA,hG,hD,hP,hL,rfl⟩:=h
 have hi:=f.rel.aaY k
 refine (RN T fr p qs t 11 tp pr n ls no V hV f.ok f.n2 R C hC f.ho f.hall f.on.2 s (ptr al) ra rd ae note LA CA hA all VA hG (fun e he=>(f.rel.each e he).2.2.2.1) f.rel.jd k oZ a m Mk O mJ cb b dP hO ME (ke pm) (f.NN _ _ hi.1) (fun e he=>(hi.1.fk e he).2.2) ?_).on (Rs:=CD++(VD++Al)) bW ?_
 ·rw [f.rel.fits,hi.2.2.2,f.q];exact hf
 ·rintro u Bs ⟨rfl,L',C',V',cf,h1,h2,h3,rfl⟩
  exact ⟨_,[],⟨rfl,_,⟨cf,h1,t,al,ra,rd,C,V,L',C',V',Ld,CD,VD,Al,hV,hC,h2,h3,hD,hP,hL,rfl⟩,rfl⟩,bW⟩
theorem yI (k:Int)(hk:1<=k/\k<=112)(z:Nat)(hz:z<=65536){o:Ob}(hl:aJ all k=some o)(hf:cQ l k z (q - 10)=false):Ct 50 [ptr s,.int .i64 k,.int .i64 z] [S] fun u Bs=>u = .int .i64 3/\∃S',S'=S/\Bs=[S']:=by
 obtain ⟨t,al,ra,rd,C,V,LA,CA,VA,Ld,CD,VD,Al,hV,hC,hA,hG,hD,hP,hL,rfl⟩:=h
 refine (E3 t 11 tp pr n ls no V hV f.ok f.n2 s (ptr al) ra rd ae note LA CA hA all VA hG (fun e he=>(f.rel.each e he).2.2.2.1) f.rel.jd k hk z hz o hl ?_).dr (gK T fr++(C++(CD++(VD++Al)))) bW ⟨rfl,_,rfl,rfl⟩
 rw [f.rel.fits,f.q];exact hf
theorem Sm (k:Int)(hk:1<=k/\k<=112)(z:Nat)(hz:z<=65536){o:Ob}(hl:aJ all k=some o)(hf:cQ l k z (q - 10)=true) :
  Ct 50 [ptr s,.int .i64 k,.int .i64 z] [S] fun u Bs=>u = .int .i64 0/\∃S',(∃cf,(∀q,aJ cf q=if z<o.size then j2 (ke pm) o z q else aJ o.fresh q) /\
   xJ T fr p qs tp pr n ls s R no ae note (eu all k { o with size:=z,aA:=if z<o.size then o.aA.take (aZ z) else o.aA,fresh:=cf,clean:=false }) od rm S')/\Bs=[S']:=by
 obtain ⟨t,al,ra,rd,C,V,LA,CA,VA,Ld,CD,VD,Al,hV,hC,hA,hG,hD,hP,hL,rfl⟩:=h
 obtain ⟨d, -, -,hi,hr⟩:=f.rel.isS hl
 have hN:=s9 hi.sz
 refine (QZ T fr p qs t 11 tp pr n ls no V hV f.ok f.n2 R C hC f.ho f.hall f.on.2 s (ptr al) ra rd ae note LA CA hA all VA hG (fun e he=>(f.rel.each e he).2.2.2.1) f.rel.jd k hk z hz o hl (fun e he=>by have:=hi.fk e he;have:=hi.sz;omega) ?_ (ke pm) (f.NN _ _ hi) (fun e he=>(hi.fk e he).2.2) (by have:=hi.pl;omega)).on (Rs:=CD++(VD++Al)) bW ?_
 ·rw [f.rel.fits,f.q];exact hf
 ·rintro u Bs ⟨rfl,V',cf,h1,h3,rfl⟩
  exact ⟨_,[],⟨rfl,_,⟨cf,h1,t,al,ra,rd,C,V,LA,CA,V',Ld,CD,VD,Al,hV,hC,hA,h3,hD,hP,hL,rfl⟩,rfl⟩,bW⟩
theorem BT (k z:Int)(hk:1<=k/\k<=112)(hz:1<=z/\z<=112)(jN:k≠z){o:Ob}(hl:aJ all k=some o)(hf:cQ l z o.size (q - 10)=false):Ct 52 [ptr s,.int .i64 k,.int .i64 z] [S] fun u Bs=>u = .int .i64 3/\∃S',S'=S/\Bs=[S']:=by
 obtain ⟨t,al,ra,rd,C,V,LA,CA,VA,Ld,CD,VD,Al,hV,hC,hA,hG,hD,hP,hL,rfl⟩:=h
 refine (HR t 11 tp pr n ls no V hV f.ok f.n2 s (ptr al) ra rd ae note LA CA hA all VA hG (fun e he=>(f.rel.each e he).2.2.2.1) f.rel.jd k z hk hz jN o hl ?_).dr (gK T fr++(C++(CD++(VD++Al)))) bW ⟨rfl,_,rfl,rfl⟩
 rw [f.rel.fits,f.q];exact hf
theorem Wr (k z:Int)(hk:1<=k/\k<=112)(hz:1<=z/\z<=112)(jN:k≠z){o:Ob}(hl:aJ all k=some o)(hf:cQ l z o.size (q - 10)=true) :
  Ct 52 [ptr s,.int .i64 k,.int .i64 z] [S] fun u Bs=>u = .int .i64 0/\∃S',(∃cf,(∀q,aJ cf q=aJ o.fresh q)/\xJ T fr p qs tp pr n ls s R no ae note (eu all z { o with fresh:=cf }) od rm S')/\Bs=[S']:=by
 obtain ⟨t,al,ra,rd,C,V,LA,CA,VA,Ld,CD,VD,Al,hV,hC,hA,hG,hD,hP,hL,rfl⟩:=h
 obtain ⟨d, -, -,hi,hr⟩:=f.rel.isS hl
 have hN:=s9 hi.sz
 refine (Vp t 11 tp pr n ls no V hV f.ok f.n2 s (ptr al) ra rd ae note LA CA hA all VA hG (fun e he=>(f.rel.each e he).2.2.2.1) f.rel.jd k z hk hz jN o hl ?_ (fun e he=>⟨hr.fp e he,(hi.fk e he).2.2⟩) ⟨by have:=hi.pl;omega,by have:=hi.il;omega⟩).on (Rs:=gK T fr++(C++(CD++(VD++Al)))) bW ?_
 ·rw [f.rel.fits,f.q];exact hf
 ·rintro u Bs ⟨rfl,L',C',V',cf,h1,h2,h3,rfl⟩
  exact ⟨_,[],⟨rfl,_,⟨cf,h1,t,al,ra,rd,C,V,L',C',V',Ld,CD,VD,Al,hV,hC,h2,h3,hD,hP,hL,rfl⟩,rfl⟩,bW⟩
theorem Ws (k:Int)(hk:1<=k/\k<=112)(a m:Nat)(Mk:a<9223372036854775808/\m<9223372036854775808){d:aw}(hd:eM l k=some d) :
  Ct 33 [ptr s,.int .i64 k,.int .i64 a,.int .i64 m] [S] fun u Bs=>∃ad c E,u = .tuple #[.slice ad (dO d.b.length a m) c,.int .i64 0]/\aC E 5 1 (.slice ad (dO d.b.length a m) c) (dO d.b.length a m) (au ((d.b.drop a).take m))/\Bs=[E,S]:=by
 obtain ⟨t,al,ra,rd,C,V,LA,CA,VA,Ld,CD,VD,Al,hV,hC,hA,hG,hD,hP,hL,rfl⟩:=h
 rcases f.rel.keys k with ⟨-,c⟩ | ⟨o,d',hl,c,hi,hr⟩
 ·rw [hd] at c;cases c
 rw [hd] at c;cases c
 refine (JO T fr p qs t 11 tp pr n ls no V hV f.ok R C hC f.ho f.hall f.on.2 s (ptr al) ra rd ae note LA CA hA all VA hG k hk a m Mk o hl hr.sz (ke pm) (f.NN _ _ hi) (fun e he=>(hi.fk e he).2.2)).on (Rs:=CD++(VD++Al)) bW ?_
 rintro u Bs ⟨ad,c,E,h1,h2,rfl⟩
 rw [hr.part,hr.size] at h2
 rw [hr.size] at h1
 exact ⟨_,[],⟨ad,c,E,h1,h2,rfl⟩,bW⟩
theorem Sn (k:Int)(hk:1<=k/\k<=112)(g:Nat){d:aw}(hd:eM l k=some d) :
  Ct 62 [ptr s,.int .i64 k,.int .u64 g] [S] fun u Bs=>∃ad c E,u = .tuple #[.slice ad (mY d.b.length 0 (aX d g) []).length c,.int .i64 0]/\aC E 164 2 (.slice ad (mY d.b.length 0 (aX d g) []).length c) (mY d.b.length 0 (aX d g) []).length ((mY d.b.length 0 (aX d g) []).flatMap Sp.lay)/\Bs=[E,S]:=by
 obtain ⟨t,al,ra,rd,C,V,LA,CA,VA,Ld,CD,VD,Al,hV,hC,hA,hG,hD,hP,hL,rfl⟩:=h
 rcases f.rel.keys k with ⟨-,c⟩ | ⟨o,d',hl,c,hi,hr⟩
 ·rw [hd] at c;cases c
 rw [hd] at c;cases c
 refine (QX s t (ptr al) ra rd ae note LA CA hA all VA hG k hk g o hl hr.sz).on (Rs:=gK T fr++(C++(V++(CD++(VD++Al))))) bW ?_
 rintro u Bs ⟨ad,c,E,h1,h2,rfl⟩
 rw [hr.since,hr.size] at h1 h2
 exact ⟨_,[],⟨ad,c,E,h1,h2,rfl⟩,bW⟩
end
def yJ (a:Nat)(l:List aw)(ae note room:Nat)(G Z:List UInt8)(M:Chunk):Prop :=
 ∃ad c D O fg cG DG dy cS DS,MF D (.slice ad l.length c) l.length (l.flatMap aw.lay)/\l.length<=c/\HL O l/\aC DG 5 1 (.slice fg 22528 cG) 22528 (au G)/\aC DS 5 1 (.slice dy 22528 cS) 22528 (au Z) /\
  M=[(a,iJ (.slice ad l.length c) ae note room (.slice fg 22528 cG) (.slice dy 22528 cS))]++(D++(O++(DG++DS)))
section
variable {a:Nat}{l:List aw}{ae note room:Nat}{G Z:List UInt8}{M:Chunk}(h:yJ a l ae note room G Z M)(aO:kN l)(hr:room<=100000)
theorem BU (k x:Int)(mJ:Option Addr)(m cb:Nat)(A:Chunk)(hb:¬(1<=k/\k<=112)\/x<0\/65536<x\/65536 - x<m):Ct 49 [ptr a,.int .i64 k,.int .i64 x,.slice mJ m cb] [M,A] fun u Bs=>u = .int .i64 1/\∃M',M'=M/\Bs=[M',A] :=
 (Fh (a:=a) k x mJ m cb hb).dr (M++A) bW ⟨rfl,_,rfl,rfl⟩
theorem rK (k z:Int)(hb:¬(1<=k/\k<=112)\/z<0\/65536<z):Ct 51 [ptr a,.int .i64 k,.int .i64 z] [M] fun u Bs=>u = .int .i64 1/\∃M',M'=M/\Bs=[M'] :=
 (Fi (a:=a) k z hb).dr M bW ⟨rfl,_,rfl,rfl⟩
theorem tO (k z:Int)(hb:¬(1<=k/\k<=112)\/¬(1<=z/\z<=112)):Ct 53 [ptr a,.int .i64 k,.int .i64 z] [M] fun u Bs=>u = .int .i64 1/\∃M',M'=M/\Bs=[M'] :=
 (HY (a:=a) k z hb).dr M bW ⟨rfl,_,rfl,rfl⟩
theorem FT (k:Int)(hb:¬(1<=k/\k<=112)):Ct 55 [ptr a,.int .i64 k] [M] fun u Bs=>u = .int .i64 1/\∃M',M'=M/\Bs=[M'] :=
 (HZ (a:=a) k hb).dr M bW ⟨rfl,_,rfl,rfl⟩
theorem tP (k x y:Int)(hb:¬(1<=k/\k<=112)\/x<0\/y<0):Ct 60 [ptr a,.int .i64 k,.int .i64 x,.int .i64 y] [M] fun u Bs=>u = .tuple #[.slice none 0 0,.int .i64 1]/\Bs=[M] :=
 (Mx (a:=a) k x y hb).dr M bW ⟨rfl,rfl⟩
include h
theorem zM (aO:kN l)(ba:Nat)(yD:ae+1<18446744073709551616):Ct 9 [ptr a,.int .u64 ba] [M] fun _ Bs=>∃M',yJ a (l.map (jC (ae+1))) (ae+1) ba room G G M'/\Bs=[M']:=by
 obtain ⟨ad,c,D,O,fg,cG,DG,dy,cS,DS,h1,h2,h3,h4,h5,rfl⟩:=h
 refine (Ik a l aO ae note room ba yD G fg cG DG h4.rd (.slice dy 22528 cS) ad c D O h1 h3).on (Rs:=DS) bW ?_
 rintro u Bs ⟨D',jj,cT,DT,k1,k2,rfl⟩
 have e:(l.map (jC (ae+1))).length=l.length:=length_map ..
 refine ⟨_,DS,⟨_,⟨ad,c,D',O,fg,cG,DG,jj,cT,DT,by rw [e];exact k1,by rw [e];exact h2,fun o ho => ?_,h4,k2,rfl⟩,by rw [e]⟩,bW⟩
 obtain ⟨o',dS,rfl⟩:=mem_map.1 ho
 have e2:(jC (ae+1) o').b=o'.b/\(jC (ae+1) o').v=o'.v:=⟨(cA _ o' 64).2.1,(cA _ o' 64).2.2⟩
 rw [e2.1,e2.2]
 exact h3 o' dS
theorem rL (aO:kN l):Ct 13 [ptr a] [M] fun u Bs=>∃d l' D',u=ptr d/\l'.map aw.nv=l.map aw.nv/\yJ d l' ae note room G Z D'/\Bs=[D',M]:=by
 obtain ⟨ad,c,D,O,fg,cG,DG,dy,cS,DS,h1,h2,h3,h4,h5,rfl⟩:=h
 refine (Fo a l aO ae note room G Z fg cG DG h4.rd dy cS DS h5.rd ad c D O h1.1 h3).on (Rs:=[]) bW ?_
 rintro u Bs ⟨d,l',bz,c',D',E,ru,J1,NK,rv,J2,NM,rfl,k1,k2,k3,k4,k5,rfl⟩
 exact ⟨_,[],⟨d,l',_,rfl,k1,⟨bz,c',D',E,ru,J1,NK,rv,J2,NM,MF.of k2,by have:=k2.eH;omega,k3,k4,k5,rfl⟩,rfl⟩,bW⟩
include aO
theorem Iy (k:Int)(hk:1<=k/\k<=112)(x y:Nat)(hn:eM l k=none):Ct 60 [ptr a,.int .i64 k,.int .i64 x,.int .i64 y] [M] fun u Bs=>u = .tuple #[.slice none 0 0,.int .i64 130]/\Bs=[M]:=by
 obtain ⟨ad,c,D,O,fg,cG,DG,dy,cS,DS,h1,h2,h3,h4,h5,rfl⟩:=h
 exact (Q5 a l aO ae note room (.slice fg 22528 cG) (.slice dy 22528 cS) ad c D h1.1 k hk x y hn).dr (O++(DG++DS)) bW ⟨rfl,rfl⟩
theorem Wu (k:Int):Ct 61 [ptr a,.int .i64 k] [M] fun u Bs=>u = .tuple #[.int .i64 (iW l k).1,.int .i64 (iW l k).2]/\Bs=[M]:=by
 obtain ⟨ad,c,D,O,fg,cG,DG,dy,cS,DS,h1,h2,h3,h4,h5,rfl⟩:=h
 exact (Bv a l aO ae note room (.slice fg 22528 cG) (.slice dy 22528 cS) ad c D O h1.1 h3 k).dr (O++(DG++DS)) bW ⟨rfl,rfl⟩
theorem Wv (k:Int)(hk:1<=k/\k<=112)(x y:Nat)(hxy:x<9223372036854775808/\y<9223372036854775808){o:aw}(ho:eM l k=some o):Ct 60 [ptr a,.int .i64 k,.int .i64 x,.int .i64 y] [M] fun u Bs=>∃ad c,u = .tuple #[.slice ad (dO o.b.length x y) c,.int .i64 0]/\Rd M 1 (.slice ad (dO o.b.length x y) c) (dO o.b.length x y) (au ((o.b.drop x).take y))/\Bs=[M]:=by
 obtain ⟨ad,c,D,O,fg,cG,DG,dy,cS,DS,h1,h2,h3,h4,h5,rfl⟩:=h
 refine (Q6 a l aO ae note room (.slice fg 22528 cG) (.slice dy 22528 cS) ad c D O h1.1 h3 k hk x y hxy o ho).on (Rs:=DG++DS) bW ?_
 rintro u Bs ⟨bz,c',k1,k2,rfl⟩
 exact ⟨_,[],⟨bz,c',k1,k2.sub fun x hx=>by simp only [List.mem_append,hx,true_or,or_true],rfl⟩,bW⟩
theorem FU (k:Int)(g:Nat)(hn:(iW l k).2≠0):Ct 63 [ptr a,.int .i64 k,.int .u64 g] [M] fun u Bs=>u = .tuple #[.slice none 0 0,.int .i64 (iW l k).2]/\Bs=[M]:=by
 obtain ⟨ad,c,D,O,fg,cG,DG,dy,cS,DS,h1,h2,h3,h4,h5,rfl⟩:=h
 exact (My a l aO ae note room (.slice fg 22528 cG) (.slice dy 22528 cS) ad c D O h1.1 h3 k g hn).dr (O++(DG++DS)) bW ⟨rfl,rfl⟩
theorem Sq (k:Int)(hk:1<=k/\k<=112)(g:Nat){o:aw}(ho:eM l k=some o):Ct 63 [ptr a,.int .i64 k,.int .u64 g] [M] fun u Bs=>∃ad c E,u = .tuple #[.slice ad (mY o.b.length 0 (aX o g) []).length c,.int .i64 0]/\aC E 164 2 (.slice ad (mY o.b.length 0 (aX o g) []).length c) (mY o.b.length 0 (aX o g) []).length ((mY o.b.length 0 (aX o g) []).flatMap Sp.lay)/\Bs=[E,M]:=by
 obtain ⟨ad,c,D,O,fg,cG,DG,dy,cS,DS,h1,h2,h3,h4,h5,rfl⟩:=h
 refine (Q7 a l aO ae note room (.slice fg 22528 cG) (.slice dy 22528 cS) ad c D O h1.1 h3 k hk g o ho).on (Rs:=O++(DG++DS)) bW ?_
 rintro u Bs ⟨bz,c',E,k1,k2,rfl⟩
 exact ⟨_,[],⟨bz,c',E,k1,k2,rfl⟩,bW⟩
theorem Ww (k:Int)(hk:1<=k/\k<=112):(eM l k=none/\Ct 55 [ptr a,.int .i64 k] [M] fun u Bs=>u = .int .i64 130/\∃M',M'=M/\Bs=[M'])\/(∃o,eM l k=some o)/\Ct 55 [ptr a,.int .i64 k] [M] fun u Bs=>u = .int .i64 0/\∃M',(∃i o,l[i]? = some o/\(o.no:Int)=k/\yJ a (l.take i++l.drop (i+1)) ae note room G Z M')/\Bs=[M']:=by
 obtain ⟨ad,c,D,O,fg,cG,DG,dy,cS,DS,h1,h2,h3,h4,h5,rfl⟩:=h
 have c:=Ri a l aO ae note room (.slice fg 22528 cG) (.slice dy 22528 cS) ad c D k hk h1 h2
 cases hl:eM l k with
 | none =>
  refine .inl ⟨rfl,c.on (Rs:=O++(DG++DS)) bW ?_⟩
  rintro u Bs (⟨-,rfl,rfl⟩ | ⟨i,o, -, -, -, -, -,e, -⟩)
  ·exact ⟨_,[],⟨rfl,_,rfl,rfl⟩,bW⟩
  ·rw [hl] at e;cases e
 | some o =>
  refine .inr ⟨⟨o,rfl⟩,c.on (Rs:=O++(DG++DS)) bW ?_⟩
  rintro u Bs (⟨e, -⟩ | ⟨i,o',l',bz,c',D',k1,k2,rfl,rfl,k3,k4,rfl⟩)
  ·rw [hl] at e;cases e
  ·exact ⟨_,[],⟨rfl,_,⟨i,o',k1,(fH k2).2,bz,c',D',O,fg,cG,DG,dy,cS,DS,k3,k4,fun x hx=>h3 x (by
    rcases List.mem_append.1 hx with hx | hx
    ·exact mem_of_mem_take hx
    ·exact mem_of_mem_drop hx),h4,h5,rfl⟩,rfl⟩,bW⟩
include hr
theorem yK (k:Nat)(hk:1<=k/\k<=112)(x m:Nat)(UE:x+m<=65536)(B:Chunk)(mJ:Option Addr)(cb:Nat)(b:List UInt8)(dP:b.length=m)(hB:Rd B 1 (.slice mJ m cb) m (au b))(ME:m<=cb)(hf:cQ l k (max (lG l k).b.length (x+m)) room=false) :
  Ct 49 [ptr a,.int .i64 k,.int .i64 x,.slice mJ m cb] [M,B] fun u Bs=>u = .int .i64 3/\∃M',M'=M/\Bs=[M',B]:=by
 obtain ⟨ad,c,D,O,fg,cG,DG,dy,cS,DS,h1,h2,h3,h4,h5,rfl⟩:=h
 refine (zD a l aO ae note room hr (.slice fg 22528 cG) (.slice dy 22528 cS) ad c D O h1.1 h3 k hk x m UE B mJ cb b dP hB ME).on (Rs:=DG++DS) bW ?_
 rintro u Bs (⟨-,rfl,rfl⟩ | ⟨hc, -⟩)
 ·exact ⟨_,[],⟨rfl,_,rfl,rfl⟩,bW⟩
 ·rw [hf] at hc;cases hc
theorem Sr (k:Nat)(hk:1<=k/\k<=112)(x m:Nat)(UE:x+m<=65536)(B:Chunk)(mJ:Option Addr)(cb:Nat)(b:List UInt8)(dP:b.length=m)(hB:Rd B 1 (.slice mJ m cb) m (au b))(ME:m<=cb)(hf:cQ l k (max (lG l k).b.length (x+m)) room=true) :
  Ct 49 [ptr a,.int .i64 k,.int .i64 x,.slice mJ m cb] [M,B] fun u Bs=>u = .int .i64 0/\∃M',(∃v,yJ a (dT { lG l k with b:=Mz (lG l k).b (max (lG l k).b.length (x+m)) x b,ik:=rn (lG l k) x m,v:=v } false l) ae note room G Z M')/\Bs=[M',B]:=by
 obtain ⟨ad,c,D,O,fg,cG,DG,dy,cS,DS,h1,h2,h3,h4,h5,rfl⟩:=h
 refine (zD a l aO ae note room hr (.slice fg 22528 cG) (.slice dy 22528 cS) ad c D O h1.1 h3 k hk x m UE B mJ cb b dP hB ME).on (Rs:=DG++DS) bW ?_
 rintro u Bs (⟨hc, -⟩ | ⟨-,rfl,v,l',bz,c',D',E,rfl,k1,k2,rfl⟩)
 ·rw [hf] at hc;cases hc
 ·exact ⟨_,[],⟨rfl,_,⟨v,bz,c',D',O++E,fg,cG,DG,dy,cS,DS,MF.of k2,by have:=k2.eH;omega,k1,h4,h5,rfl⟩,rfl⟩,bW⟩
theorem FV (k:Int)(hk:1<=k/\k<=112)(z:Nat)(hz:z<=65536)(hn:eM l k=none):Ct 51 [ptr a,.int .i64 k,.int .i64 z] [M] fun u Bs=>u = .int .i64 130/\∃M',M'=M/\Bs=[M']:=by
 obtain ⟨ad,c,D,O,fg,cG,DG,dy,cS,DS,h1,h2,h3,h4,h5,rfl⟩:=h
 refine (sZ a l aO ae note room hr (.slice fg 22528 cG) (.slice dy 22528 cS) ad c D O h1.1 h3 k hk z hz).on (Rs:=DG++DS) bW ?_
 rintro u Bs (⟨-,rfl,rfl⟩ | ⟨o,e, -⟩)
 ·exact ⟨_,[],⟨rfl,_,rfl,rfl⟩,bW⟩
 ·rw [hn] at e;cases e
theorem yL (k:Int)(hk:1<=k/\k<=112)(z:Nat)(hz:z<=65536){o:aw}(hl:eM l k=some o)(hf:cQ l k z room=false):Ct 51 [ptr a,.int .i64 k,.int .i64 z] [M] fun u Bs=>u = .int .i64 3/\∃M',M'=M/\Bs=[M']:=by
 obtain ⟨ad,c,D,O,fg,cG,DG,dy,cS,DS,h1,h2,h3,h4,h5,rfl⟩:=h
 refine (sZ a l aO ae note room hr (.slice fg 22528 cG) (.slice dy 22528 cS) ad c D O h1.1 h3 k hk z hz).on (Rs:=DG++DS) bW ?_
 rintro u Bs (⟨e, -⟩ | ⟨o', -,⟨-,rfl,rfl⟩ | ⟨hc, -⟩⟩)
 ·rw [hl] at e;cases e
 ·exact ⟨_,[],⟨rfl,_,rfl,rfl⟩,bW⟩
 ·rw [hf] at hc;cases hc
theorem Ss (k:Int)(hk:1<=k/\k<=112)(z:Nat)(hz:z<=65536){o:aw}(hl:eM l k=some o)(hf:cQ l k z room=true):Ct 51 [ptr a,.int .i64 k,.int .i64 z] [M] fun u Bs=>u = .int .i64 0/\∃M',(∃v,yJ a (dT { XZ o z with b:=dV z o.b,v:=v } false l) ae note room G Z M')/\Bs=[M']:=by
 obtain ⟨ad,c,D,O,fg,cG,DG,dy,cS,DS,h1,h2,h3,h4,h5,rfl⟩:=h
 refine (sZ a l aO ae note room hr (.slice fg 22528 cG) (.slice dy 22528 cS) ad c D O h1.1 h3 k hk z hz).on (Rs:=DG++DS) bW ?_
 rintro u Bs (⟨e, -⟩ | ⟨o',e,⟨hc, -⟩ | ⟨-,rfl,v,l',bz,c',D',E,rfl,k1,k2,rfl⟩⟩)
 ·rw [hl] at e;cases e
 ·rw [hf] at hc;cases hc
 ·rw [hl] at e;cases e
  exact ⟨_,[],⟨rfl,_,⟨v,bz,c',D',O++E,fg,cG,DG,dy,cS,DS,MF.of k2,by have:=k2.eH;omega,k1,h4,h5,rfl⟩,rfl⟩,bW⟩
theorem Iz (k:Int)(hk:1<=k/\k<=112)(z:Nat)(hz:1<=z/\z<=112)(hn:eM l k=none):Ct 53 [ptr a,.int .i64 k,.int .i64 z] [M] fun u Bs=>u = .int .i64 130/\∃M',M'=M/\Bs=[M']:=by
 obtain ⟨ad,c,D,O,fg,cG,DG,dy,cS,DS,h1,h2,h3,h4,h5,rfl⟩:=h
 refine (rp a l aO ae note room hr (.slice fg 22528 cG) (.slice dy 22528 cS) ad c D O h1.1 h3 k hk z hz).on (Rs:=DG++DS) bW ?_
 rintro u Bs (⟨-,rfl,rfl⟩ | ⟨o,e, -⟩)
 ·exact ⟨_,[],⟨rfl,_,rfl,rfl⟩,bW⟩
 ·rw [hn] at e;cases e
theorem BV (z:Nat)(hz:1<=z/\z<=112){o:aw}(hl:eM l z=some o):Ct 53 [ptr a,.int .i64 z,.int .i64 z] [M] fun u Bs=>u = .int .i64 0/\∃M',M'=M/\Bs=[M']:=by
 obtain ⟨ad,c,D,O,fg,cG,DG,dy,cS,DS,h1,h2,h3,h4,h5,rfl⟩:=h
 refine (rp a l aO ae note room hr (.slice fg 22528 cG) (.slice dy 22528 cS) ad c D O h1.1 h3 z oZ z hz).on (Rs:=DG++DS) bW ?_
 rintro u Bs (⟨e, -⟩ | ⟨o', -,⟨-,rfl,rfl⟩ | ⟨hc, -⟩ | ⟨hc, -⟩⟩)
 ·rw [hl] at e;cases e
 ·exact ⟨_,[],⟨rfl,_,rfl,rfl⟩,bW⟩
 ·exact absurd rfl hc
 ·exact absurd rfl hc
theorem BW (k:Int)(hk:1<=k/\k<=112)(z:Nat)(hz:1<=z/\z<=112)(jN:k≠z){o:aw}(hl:eM l k=some o)(hf:cQ l z o.b.length room=false):Ct 53 [ptr a,.int .i64 k,.int .i64 z] [M] fun u Bs=>u = .int .i64 3/\∃M',M'=M/\Bs=[M']:=by
 obtain ⟨ad,c,D,O,fg,cG,DG,dy,cS,DS,h1,h2,h3,h4,h5,rfl⟩:=h
 refine (rp a l aO ae note room hr (.slice fg 22528 cG) (.slice dy 22528 cS) ad c D O h1.1 h3 k hk z hz).on (Rs:=DG++DS) bW ?_
 rintro u Bs (⟨e, -⟩ | ⟨o',e,⟨hc, -⟩ | ⟨-, -,rfl,rfl⟩ | ⟨-,hc, -⟩⟩)
 ·rw [hl] at e;cases e
 ·exact absurd hc jN
 ·exact ⟨_,[],⟨rfl,_,rfl,rfl⟩,bW⟩
 ·rw [hl] at e;cases e
  rw [hf] at hc;cases hc
theorem Wx (k:Int)(hk:1<=k/\k<=112)(z:Nat)(hz:1<=z/\z<=112)(jN:k≠z){o:aw}(hl:eM l k=some o)(hf:cQ l z o.b.length room=true):Ct 53 [ptr a,.int .i64 k,.int .i64 z] [M] fun u Bs=>u = .int .i64 0/\∃M',(∃v,yJ a (dT { o with no:=z,v:=v } false l) ae note room G Z M')/\Bs=[M']:=by
 obtain ⟨ad,c,D,O,fg,cG,DG,dy,cS,DS,h1,h2,h3,h4,h5,rfl⟩:=h
 refine (rp a l aO ae note room hr (.slice fg 22528 cG) (.slice dy 22528 cS) ad c D O h1.1 h3 k hk z hz).on (Rs:=DG++DS) bW ?_
 rintro u Bs (⟨e, -⟩ | ⟨o',e,⟨hc, -⟩ | ⟨-,hc, -⟩ | ⟨-, -,rfl,v,l',bz,c',D',E,rfl,k1,k2,rfl⟩⟩)
 ·rw [hl] at e;cases e
 ·exact absurd hc jN
 ·rw [hl] at e;cases e
  rw [hf] at hc;cases hc
 ·rw [hl] at e;cases e
  exact ⟨_,[],⟨rfl,_,⟨v,bz,c',D',O++E,fg,cG,DG,dy,cS,DS,MF.of k2,by have:=k2.eH;omega,k1,h4,h5,rfl⟩,rfl⟩,bW⟩
end
section
variable (rg p s a d:Nat)(vQ:Value)(S M A Dn:Chunk)(k z x y e:Int)(nt:Nat)(b:Value)(PS PM:Chunk->Prop)
theorem M3 (PD:Chunk->Nat->Chunk->Prop)(hm:Ct 9 [ptr a,.int .u64 nt] [M] fun _ Bs=>∃M',PM M'/\Bs=[M'])
  (hc:∀M',PM M'->Ct 13 [ptr a] [M'] fun u Bs=>∃d' D',u=ptr d'/\PD M' d' D'/\Bs=[D',M'])
  (hs:Ct 8 [ptr s,.int .u64 nt] [S] fun u Bs=>u = .int .i64 0/\∃S',PS S'/\Bs=[S']) :
  Ct 21 [ptr rg,uJ 7 k z x y nt b] [[(rg,ye p vQ s a d)],S,M] fun u Bs=>u = .bool true/\∃S' M' d' D',PS S'/\PM M'/\PD M' d' D'/\Bs=[[(rg,ye p vQ s a d')],S',M',D']:=by
 refine st func21 fun w0 => ?_
 refine ga ?_;intro b3
 refine gc hm ?_
 rintro _ _ ⟨M',h1,rfl⟩
 refine gc (hc M' h1) ?_
 rintro _ _ ⟨d',D',rfl,h2,rfl⟩
 refine rQ [[(rg,ye p vQ s a d')],[(b3,opO 7 k z x y nt b)]] [0,4,8,12,16,20,27,30,34] ?_
 refine gc hs ?_
 rintro _ _ ⟨rfl,S',h3,rfl⟩
 refine gz ?_
 exact fin ⟨by simp,S',M',d',D',h3,h1,h2,rfl⟩ aa
theorem Wy (o:Int)(h0:o≠0)(h1:o≠1)(h2:o≠2)(h3:o≠3)(h7:o≠7)(h9:o≠9)(Yg:o≠10) :
  Ct 21 [ptr rg,uJ o k z x y nt b] [] fun u Bs=>u = .bool true/\Bs=[]:=by
 refine st func21 fun w0 => ?_
 refine ga ?_;intro b3
 refine gz ?_
 exact fin ⟨rfl,rfl⟩ aa
end
section
variable (rg p s a d:Nat)(vQ:Value)(S M A:Chunk)(k z x y e:Int)(nt:Nat)(PS PM:Chunk->Prop)
theorem xM (bs:List UInt8)(m:Nat)(dP:bs.length=m)(mJ:Option Addr)(cb:Nat)(hA:Rd A 1 (.slice mJ m cb) m (au bs))(hm:m<=1048576)
  (hs:∀B' adc cc,aC B' 5 1 (.slice adc m cc) m (au bs)->Ct 48 [ptr s,.int .i64 k,.int .i64 x,.slice adc m cc] [S,B'] fun u Bs=>u = .int .i64 e/\∃S',PS S'/\Bs=[S',B'])
  (hd:Ct 49 [ptr a,.int .i64 k,.int .i64 x,.slice mJ m cb] [M,A] fun u Bs=>u = .int .i64 e/\∃M',PM M'/\Bs=[M',A]) :
  Ct 21 [ptr rg,uJ 0 k z x y nt (.slice mJ m cb)] [[(rg,ye p vQ s a d)],S,M,A] fun u Bs=>u = .bool true/\∃S' M',PS S'/\PM M'/\Bs=[[(rg,ye p vQ s a d)],S',M',A]:=by
 refine st func21 fun w0 => ?_
 refine ga ?_;intro b3
 refine gp ?_;intro adc cc B' Ci
 have hBr:=Ci.rd
 refine gd [0,4,8,12,16,20,24,28,32,39,42] ?_
 refine gc (hs B' adc cc Ci) ?_
 rintro _ _ ⟨rfl,S',h1,rfl⟩
 refine go ?_
 rw [show decide (bs=bs)=true from decide_eq_true rfl]
 obtain ⟨g1,g2,⟨hv,h3,rfl⟩ | ⟨g,c1,r,hv,rfl,h3,h4,h5⟩⟩:=Ci
 ·cases hv
  refine gl [0,3,5,6,7] (fun i:Nat=>[(8,.int .i64 i)]) (fun _=>[]) (fun i=>i=0) (fun _=>0) 0 rfl ?_
  rintro i rfl
  refine gd [0,4,10,12,16,20,24,28,32,36,40,44,48,55,58,62,66] ?_
  refine gc hd ?_
  rintro _ _ ⟨rfl,M',h2,rfl⟩
  refine gz ?_
  exact fin ⟨by simp,S',M',h1,h2,rfl⟩ aa
 ·cases hv
  refine gl [0,3,5,6,7] (fun ((i,_):Nat×List Value)=>[(8,.int .i64 i)]) (fun (i,pre)=>[[(g,ax (pre++((au bs).drop i++r)) 5)]]) (fun (i,pre)=>i<=m/\pre.length=i) (fun (i,_)=>m - i) (0,[]) ⟨by omega,rfl⟩ ?_
  rintro ⟨i,pre⟩ ⟨hi,oE⟩
  refine gi ?_ ?_ <;> intro br
  ·have bh:i<bs.length:=oZ
   have LG:(au bs).drop i = .int .u8 (bs[i].toNat:Int) :: (au bs).drop (i+1):=by
    rw [drop_eq_getElem_cons (by rw [aq];omega)]
    congr 1
    simp [au]
   rw [LG]
   have bX:(pre++(.int .u8 (bs[i].toNat:Int) :: (au bs).drop (i+1)++r))[i]? = some (.int .u8 (bs[i].toNat:Int)):=by
    rw [getElem?_append_right oZ,oE,Nat.sub_self];rfl
   have eQ:∀v,(pre++(.int .u8 (bs[i].toNat:Int) :: (au bs).drop (i+1)++r)).set i v=(pre++[v])++((au bs).drop (i+1)++r):=fun v=>by
    rw [set_append_right _ _ oZ,oE,Nat.sub_self,append_assoc];rfl
   refine go ?_
   rw [eQ]
   refine gn ?_
   exact ⟨(i+1,pre++[_]),⟨by omega,by simp [oE]⟩,sOZ,ar,_,aa⟩
  ·obtain rfl:i=m:=oZ
   refine gd [0,4,10,12,16,20,24,28,32,36,40,44,48,55,58,62,66] ?_
   refine gc hd ?_
   rintro _ _ ⟨rfl,M',h2,rfl⟩
   refine gz ?_
   exact fin ⟨by simp,S',M',h1,h2,rfl⟩ aa
end
section
variable (rg p s a d:Nat)(vQ:Value)(S M:Chunk)(k z x y e e1 e2:Int)(nt:Nat)(b:Value)
theorem Wz (hs:Ct 32 [ptr s,.int .i64 k] [S] fun u Bs=>u = .tuple #[.int .i64 e1,.int .i64 e2]/\Bs=[S])(hd:Ct 61 [ptr a,.int .i64 k] [M] fun u Bs=>u = .tuple #[.int .i64 e1,.int .i64 e2]/\Bs=[M]) :
  Ct 22 [ptr rg,uJ 5 k z x y nt b] [[(rg,ye p vQ s a d)],S,M] fun u Bs=>u = .bool true/\Bs=[[(rg,ye p vQ s a d)],S,M]:=by
 refine st func22 fun w0 => ?_
 refine ga ?_;intro b3
 refine gd [0,4,8,12,16,20,27,30,34,38,42,46] ?_
 refine gc hs ?_
 rintro _ _ ⟨rfl,rfl⟩
 refine gd [0,4,8,12,16,20,27,30,34,38,42,46] ?_
 refine gc hd ?_
 rintro _ _ ⟨rfl,rfl⟩
 refine gz ?_
 exact fin ⟨by simp,rfl⟩ aa
theorem FW (PE:Value->Chunk->Prop)(hs:Ct 62 [ptr s,.int .i64 k,.int .u64 nt] [S] fun u Bs=>∃v E,u = .tuple #[v,.int .i64 e]/\PE v E/\Bs=[E,S])
  (hd:Ct 63 [ptr a,.int .i64 k,.int .u64 nt] [M] fun u Bs=>∃v E,u = .tuple #[v,.int .i64 e]/\PE v E/\Bs=[E,M])
  (hq:∀v1 E1 v2 E2,PE v1 E1->PE v2 E2->Ct 64 [v1,v2] [E1,E2] fun u Bs=>u = .bool true/\Bs=[E1,E2]) :
  Ct 22 [ptr rg,uJ 6 k z x y nt b] [[(rg,ye p vQ s a d)],S,M] fun u Bs=>u = .bool true/\Bs=[[(rg,ye p vQ s a d)],S,M]:=by
 refine st func22 fun w0 => ?_
 refine ga ?_;intro b3
 refine gd [0,4,8,12,16,20,24,28,35,38,42,46,50,54] ?_
 refine gc hs ?_
 rintro _ _ ⟨v1,E1,rfl,h1,rfl⟩
 refine gd [0,4,8,12,16,20,24,28,35,38,42,46,50,54] ?_
 refine gc hd ?_
 rintro _ _ ⟨v2,E2,rfl,h2,rfl⟩
 refine gc (hq v1 E1 v2 E2 h1 h2) ?_
 rintro _ _ ⟨rfl,rfl⟩
 refine gz ?_
 exact fin ⟨by simp,rfl⟩ aa
theorem WA (o:Int)(h4:o≠4)(h5:o≠5)(h6:o≠6)(h11:o≠11) :
  Ct 22 [ptr rg,uJ o k z x y nt b] [] fun u Bs=>u = .bool true/\Bs=[]:=by
 refine st func22 fun w0 => ?_
 refine ga ?_;intro b3
 refine gz ?_
 exact fin ⟨rfl,rfl⟩ aa
end
section
variable (rg p s a d:Nat)(vQ:Value)(S M:Chunk)(k z x y e e1 e2:Int)(nt:Nat)(b:Value)
theorem Kd (N:Nat)(hN:N<=65536)(bs:List UInt8)(dP:bs.length=N)(hs:Ct 33 [ptr s,.int .i64 k,.int .i64 x,.int .i64 y] [S] fun u Bs=>∃ad c E,u = .tuple #[.slice ad N c,.int .i64 e]/\aC E 5 1 (.slice ad N c) N (au bs)/\Bs=[E,S])
  (hd:Ct 60 [ptr a,.int .i64 k,.int .i64 x,.int .i64 y] [M] fun u Bs=>∃ad c,u = .tuple #[.slice ad N c,.int .i64 e]/\Rd M 1 (.slice ad N c) N (au bs)/\Bs=[M]) :
  Ct 22 [ptr rg,uJ 4 k z x y nt b] [[(rg,ye p vQ s a d)],S,M] fun u Bs=>u = .bool true/\Bs=[[(rg,ye p vQ s a d)],S,M]:=by
 refine st func22 fun w0 => ?_
 refine ga ?_;intro b3
 refine gd [0,4,8,12,16,20,24,28,32,36,43,46,50,54,58,62] ?_
 refine gc hs ?_
 rintro _ _ ⟨iY,c1,E,rfl,hE,rfl⟩
 have hEr:=hE.rd
 refine gd [0,4,8,12,16,20,24,28,32,36,43,46,50,54,58,62] ?_
 refine gc hd ?_
 rintro _ _ ⟨ad2,c2,rfl,hR,rfl⟩
 refine go ?_
 rw [show decide (bs=bs)=true from decide_eq_true rfl]
 obtain ⟨g1,g2,⟨hv,h3,rfl⟩ | ⟨g,q1,r,hv,rfl,h3,h4,h5⟩⟩:=hE
 ·cases hv
  refine gl [0,3,5,6,7,8,9] (fun i:Nat=>[(10,.int .i64 i)]) (fun _=>[]) (fun i=>i=0) (fun _=>0) 0 rfl ?_
  rintro i rfl
  refine gm ?_;intro b76
  refine gp ?_;intro sF c5 E5 hE5
  refine gz ?_
  exact fin ⟨by simp,rfl⟩ aa
 ·cases hv
  refine gl [0,3,5,6,7,8,9] (fun ((i,_):Nat×List Value)=>[(10,.int .i64 i)]) (fun (i,pre)=>[[(g,ax (pre++((au bs).drop i++r)) 5)]]) (fun (i,pre)=>i<=N/\pre.length=i/\∀u∈pre,u.oneCell'=true) (fun (i,_)=>N - i) (0,[]) ⟨by omega,rfl,by simp⟩ ?_
  rintro ⟨i,pre⟩ ⟨hi,oE,nC⟩
  refine gi ?_ ?_ <;> intro br
  ·have bh:i<bs.length:=oZ
   have LG:(au bs).drop i = .int .u8 (bs[i].toNat:Int) :: (au bs).drop (i+1):=by
    rw [drop_eq_getElem_cons (by rw [aq];omega)]
    congr 1
    simp [au]
   rw [LG]
   have bX:(pre++(.int .u8 (bs[i].toNat:Int) :: (au bs).drop (i+1)++r))[i]? = some (.int .u8 (bs[i].toNat:Int)):=by
    rw [getElem?_append_right oZ,oE,Nat.sub_self];rfl
   have eQ:∀v,(pre++(.int .u8 (bs[i].toNat:Int) :: (au bs).drop (i+1)++r)).set i v=(pre++[v])++((au bs).drop (i+1)++r):=fun v=>by
    rw [set_append_right _ _ oZ,oE,Nat.sub_self,append_assoc];rfl
   refine go ?_
   rw [eQ]
   refine gn ?_
   exact ⟨(i+1,pre++[.int .u8 (IntKind.u8.wrap ((bs[i].toNat:Int)+1))]),⟨by omega,by simp [oE],fun u hu=>by
    rcases List.mem_append.1 hu with hu | hu
    ·exact nC u hu
    ·rw [mem_singleton.1 hu];rfl⟩,sOZ,ar,_,aa⟩
  ·obtain rfl:i=N:=oZ
   have hE2:aC [(g,ax (pre++((au bs).drop i++r)) 5)] 5 1 (.slice (some ⟨g,0,none⟩) i c1) i pre:=by
    have e:(au bs).drop i=[]:=drop_eq_nil_of_le (by rw [aq];omega)
    rw [e,nil_append]
    refine ⟨by omega,nC,.inr ⟨g,c1,r,rfl,rfl,h3,h4, ?_⟩⟩
    rw [aq] at h5
    omega
   refine gm ?_;intro b76
   refine gp ?_;intro sF c5 E5 hE5
   refine gz ?_
   exact fin ⟨by simp,rfl⟩ aa
end
structure Cg (tp:Tp)(pr:Bool)(n q w:Nat):Prop where
 nJ:tp.nJ
 ok:dj tp pr n w
 n2:n<=2048
 hw:w=tp.leaves.toNat
 qe:bD pr w n / aL pr w 1024 / 4=q
 q10:10<=q
theorem Cg.q2 {tp:Tp}{pr:Bool}{n q w:Nat}(cg:Cg tp pr n q w):q - 10<=100000:=by
 have h1:=ir pr cg.ok.hw ⟨cg.ok.hn.1,cg.n2⟩
 have h2:=cg.qe
 have h3:bD pr w n / aL pr w 1024 / 4<=10240:=Nat.le_trans (Nat.div_le_self _ _) (Nat.le_trans (Nat.div_le_self _ _) h1.2)
 omega
structure Tu (T:TypeId)(fr:Nat×Nat)(tp:Tp)(pr:Bool)(n q w i:Nat)(r:Rg)(qs:List Nat)(ls:List (Option Lv))(R:Rk)(no:Nat)(u:Ub)(all:List (Int×Ob))(od:List (Int×List Pt))(x:Rm)(lM lD:List aw)(GM SM GD SD:List UInt8)(pm:List dg)(cs:List (Int×Ob))(mo:Ob)(ring:Nat->Option Ub)(S M Dn Q:Chunk):Prop where
 vq:∃ad c,r.vQ = .slice ad w c/\Rd Q 1 (.slice ad w c) w (qs.map ptr)
 lo:j0 qs ls
 ql:qs.length=w
 ll:ls.length=w
 jm:rJ tp pr n ls.length q R no u all od x lM lD GM SD pm cs mo ring
 st:xJ T fr r.p qs tp pr n ls r.s R no u.ae u.note all od x S
 dm:yJ r.a lM u.ae u.note (q - 10) GM SM M
 dd:yJ r.d lD u.ae u.note (q - 10) GD SD Dn
 no:1<=no/\no<=1+22528*i
 tx:u.ae<=1+i
 ws:R.ws.length<=112640*i
def Inv (T:TypeId)(fr:Nat×Nat)(tp:Tp)(pr:Bool)(n q w i:Nat)(r:Rg)(X:Chunk):Prop:=∃qs ls R no u all od x lM lD GM SM GD SD pm cs mo ring S M Dn Q,Tu T fr tp pr n q w i r qs ls R no u all od x lM lD GM SM GD SD pm cs mo ring S M Dn Q/\X=S++(M++(Dn++Q))
section
variable {g:FuncId}{args:List Value}{rc S M A Z:Chunk}{PS PM Iv:Chunk->Prop}
theorem IA (c:Ct g args [rc,S,M,A] fun u Bs=>u = .bool true/\∃S' M',PS S'/\PM M'/\Bs=[rc,S',M',A])(k:∀S' M',PS S'->PM M'->Iv (S'++(M'++Z))):Ct g args [rc,S++(M++Z),A] fun u Bs=>u = .bool true/\∃X',Iv X'/\Bs=[rc,X',A]:=by
 refine c.on (Rs:=Z) bW ?_
 rintro u Bs ⟨hu,S',M',h1,h2,rfl⟩
 exact ⟨_,[],⟨hu,_,k _ _ h1 h2,rfl⟩,bW⟩
theorem eN (c:Ct g args [rc,S,M] fun u Bs=>u = .bool true/\∃S' M',PS S'/\PM M'/\Bs=[rc,S',M'])(k:∀S' M',PS S'->PM M'->Iv (S'++(M'++Z))):Ct g args [rc,S++(M++Z),A] fun u Bs=>u = .bool true/\∃X',Iv X'/\Bs=[rc,X',A]:=by
 refine c.on (Rs:=Z++A) bW ?_
 rintro u Bs ⟨hu,S',M',h1,h2,rfl⟩
 exact ⟨_,[],⟨hu,_,k _ _ h1 h2,rfl⟩,bW⟩
theorem IB (c:Ct g args [rc,S,M] fun u Bs=>u = .bool true/\Bs=[rc,S,M]):Ct g args [rc,S++(M++Z)] fun u Bs=>u = .bool true/\Bs=[rc,S++(M++Z)]:=by
 refine c.on (Rs:=Z) bW ?_
 rintro u Bs ⟨hu,rfl⟩
 exact ⟨_,[],⟨hu,rfl⟩,bW⟩
end
section
variable {T:TypeId}{fr:Nat×Nat}{tp:Tp}{pr:Bool}{n q w i:Nat}(cg:Cg tp pr n q w){r:Rg}{qs:List Nat}{ls:List (Option Lv)}{R:Rk}{no:Nat}{u:Ub}{all:List (Int×Ob)}{od:List (Int×List Pt)}{rm:Rm}{lM lD:List aw}{GM SM GD SD:List UInt8}{pm:List dg}{cs:List (Int×Ob)}{mo:Ob}{ring:Nat->Option Ub}{S M Dn Q:Chunk}
 (h:Tu T fr tp pr n q w i r qs ls R no u all od rm lM lD GM SM GD SD pm cs mo ring S M Dn Q)
include h
theorem Tu.lw (cg:Cg tp pr n q w):(324<=n/\n<=2048)/\(1<=ls.length/\ls.length<=5)/\(pr=true->3<=ls.length):=⟨⟨cg.ok.hn.1,cg.n2⟩,by rw [h.ll];exact cg.ok.hw,by rw [h.ll];exact cg.ok.hp⟩
theorem Tu.f (cg:Cg tp pr n q w):StF qs tp pr n q ls R pm all lM:=by
 obtain ⟨h1,h2,h3⟩:=h.lw cg
 exact ⟨by rw [h.ll];exact cg.ok,cg.n2,h.lo.ok h.jm.dk.qt.sz,h.lo.all,h.jm.dk.qt.on,h.jm.rel,fun o N ho=>Ir h.lo.i h1.1 h2 h3 (fun i hi=>(h.jm.dk.qt.sz i hi).2) h.jm.dk.po ho,by rw [h.ll];exact cg.qe⟩
include cg
end
section
variable {T:TypeId}{fr:Nat×Nat}{p:Nat}{qs:List Nat}{tp:Tp}{pr:Bool}{n q:Nat}{ls:List (Option Lv)}{s:Nat}{R:Rk}{no ae note:Nat}{all:List (Int×Ob)}{od:List (Int×List Pt)}{rm:Rm}{S:Chunk}{pm:List dg}{l:List aw}
theorem xJ.rk (h:xJ T fr p qs tp pr n ls s R no ae note all od rm S):R.Ok/\qs.length=R.ds.length:=by
 obtain ⟨t,al,ra,rd,C,V,LA,CA,VA,Ld,CD,VD,Al,hV,hC, -⟩:=h
 exact ⟨hC.ok,hC.len⟩
end
section
variable {T:TypeId}{fr:Nat×Nat}{tp:Tp}{pr:Bool}{n q w i:Nat}(cg:Cg tp pr n q w)(hi:i<=1100000){r:Rg}{qs:List Nat}{ls:List (Option Lv)}{R:Rk}{no:Nat}{u:Ub}{all:List (Int×Ob)}{od:List (Int×List Pt)}{rm:Rm}{lM lD:List aw}{GM SM GD SD:List UInt8}{pm:List dg}{cs:List (Int×Ob)}{mo:Ob}{ring:Nat->Option Ub}{S M Dn Q:Chunk}
 (h:Tu T fr tp pr n q w i r qs ls R no u all od rm lM lD GM SM GD SD pm cs mo ring S M Dn Q)
include cg hi h
end
section
variable {T:TypeId}{fr:Nat×Nat}{tp:Tp}{pr:Bool}{n q w i:Nat}(cg:Cg tp pr n q w){r:Rg}{qs:List Nat}{ls:List (Option Lv)}{R:Rk}{no:Nat}{u:Ub}{all:List (Int×Ob)}{od:List (Int×List Pt)}{rm:Rm}{lM lD:List aw}{GM SM GD SD:List UInt8}{pm:List dg}{cs:List (Int×Ob)}{mo:Ob}{ring:Nat->Option Ub}{S M Dn Q:Chunk}
 (h:Tu T fr tp pr n q w i r qs ls R no u all od rm lM lD GM SM GD SD pm cs mo ring S M Dn Q)
include cg h
omit cg in
theorem WG (rg:Nat)(k z x y:Int)(nt:Nat)(b:Value):Ct 22 [ptr rg,uJ 5 k z x y nt b] [Rg.ch rg r,S,M] fun u Bs=>u = .bool true/\Bs=[Rg.ch rg r,S,M]:=by
 have c:=Wq h.st k
 rw [h.jm.rel.size] at c
 exact Wz rg r.p r.s r.a r.d r.vQ S M k z x y _ _ nt b c (Wu h.dm h.jm.rel.dl k)
theorem WH (rg:Nat)(k z x y:Int)(hx:x<9223372036854775808/\y<9223372036854775808)(nt:Nat)(b:Value):Ct 22 [ptr rg,uJ 4 k z x y nt b] [Rg.ch rg r,S,M] fun u Bs=>u = .bool true/\Bs=[Rg.ch rg r,S,M]:=by
 have f:=h.f cg
 have aO:=h.jm.rel.dl
 have bad:∀e:Int,Ct 33 [ptr r.s,.int .i64 k,.int .i64 x,.int .i64 y] [S] (fun u Bs=>u = .tuple #[.slice none 0 0,.int .i64 e]/\Bs=[S])->Ct 60 [ptr r.a,.int .i64 k,.int .i64 x,.int .i64 y] [M] (fun u Bs=>u = .tuple #[.slice none 0 0,.int .i64 e]/\Bs=[M])->Ct 22 [ptr rg,uJ 4 k z x y nt b] [Rg.ch rg r,S,M] fun u Bs=>u = .bool true/\Bs=[Rg.ch rg r,S,M]:=fun e h1 h2=>by
  refine Kd rg r.p r.s r.a r.d r.vQ S M k z x y e nt b 0 oZ [] rfl (h1.on (Rs:=[]) bW ?_) (h2.to ?_)
  ·rintro v Bs ⟨rfl,rfl⟩
   exact ⟨[[],S],[],⟨none,0,[],rfl,aC.nil _ _,rfl⟩,bW⟩
  ·rintro v Bs ⟨rfl,rfl⟩
   exact ⟨none,0,rfl,Rd.nil _ _,rfl⟩
 by_cases hb:x<0\/y<0
 ·exact bad 1 (FQ h.st k x y hb) (tP k x y (.inr hb))
 obtain ⟨x,rfl⟩:∃j:Nat,x=j:=⟨x.toNat,by omega⟩
 obtain ⟨y,rfl⟩:∃j:Nat,y=j:=⟨y.toNat,by omega⟩
 by_cases hk:1<=k/\k<=112
 ·cases hl:eM lM k with
  | none =>
   have hz:=rj hk hl
   rw [<-h.jm.rel.size] at hz
   have c:=xL h.st k x y (by rw [hz];decide)
   rw [hz] at c
   exact bad 130 c (Iy h.dm aO k hk x y hl)
  | some d =>
   have Cj:=aO.sm d (fH hl).1
   refine Kd rg r.p r.s r.a r.d r.vQ S M k z x y 0 nt b (dO d.b.length x y) (by unfold dO;omega) ((d.b.drop x).take y) (by unfold dO;rw [length_take,length_drop]) (Ws h.st f k hk x y oZ hl) (Wv h.dm aO k hk x y oZ hl)
 ·have hz:=ed (all:=all) hk
  have c:=xL h.st k x y (by rw [hz];decide)
  rw [hz] at c
  exact bad 1 c (tP k x y (.inl hk))
theorem Su (rg:Nat)(k z x y:Int)(nt:Nat)(b:Value):Ct 22 [ptr rg,uJ 6 k z x y nt b] [Rg.ch rg r,S,M] fun u Bs=>u = .bool true/\Bs=[Rg.ch rg r,S,M]:=by
 have f:=h.f cg
 have aO:=h.jm.rel.dl
 have e:=h.jm.rel.size k
 by_cases hb:(iW lM k).2=0
 ·have hk:1<=k/\k<=112:=Classical.byContradiction fun c=>by rw [sX c] at hb;cases hb
  cases hl:eM lM k with
  | none=>rw [rj hk hl] at hb;cases hb
  | some d =>
   refine FW rg r.p r.s r.a r.d r.vQ S M k z x y 0 nt b (fun v E=>∃ad c,v = .slice ad (mY d.b.length 0 (aX d nt) []).length c/\Rd E 2 v (mY d.b.length 0 (aX d nt) []).length ((mY d.b.length 0 (aX d nt) []).flatMap Sp.lay)) ((Sn h.st f k hk nt hl).to ?_) ((Sq h.dm aO k hk nt hl).to ?_) ?_
   ·rintro v Bs ⟨ad,c,E,rfl,h2,rfl⟩
    exact ⟨_,E,rfl,⟨ad,c,rfl,h2.rd⟩,rfl⟩
   ·rintro v Bs ⟨ad,c,E,rfl,h2,rfl⟩
    exact ⟨_,E,rfl,⟨ad,c,rfl,h2.rd⟩,rfl⟩
   ·rintro _ E1 _ E2 ⟨iY,c1,rfl,h1⟩ ⟨ad2,c2,rfl,h2⟩
    exact JE _ _ rfl E1 E2 iY ad2 c1 c2 h1 h2
 ·have c1:=FR h.st k nt (by rw [e];exact hb)
  rw [e] at c1
  refine FW rg r.p r.s r.a r.d r.vQ S M k z x y (iW lM k).2 nt b (fun v E=>v = .slice none 0 0/\E=[]) (c1.on (Rs:=[]) bW ?_) ((FU h.dm aO k nt hb).on (Rs:=[]) bW ?_) ?_
  ·rintro v Bs ⟨rfl,rfl⟩
   exact ⟨[[],S],[],⟨_,[],rfl,⟨rfl,rfl⟩,rfl⟩,bW⟩
  ·rintro v Bs ⟨rfl,rfl⟩
   exact ⟨[[],M],[],⟨_,[],rfl,⟨rfl,rfl⟩,rfl⟩,bW⟩
  ·rintro _ E1 _ E2 ⟨rfl,rfl⟩ ⟨rfl,rfl⟩
   exact JE [] _ rfl [] [] none none 0 0 (Rd.nil _ _) (Rd.nil _ _)
end
section
variable {T:TypeId}{fr:Nat×Nat}{p:Nat}{qs:List Nat}{tp:Tp}{pr:Bool}{n q w:Nat}(cg:Cg tp pr n q w)(yc:qs.length=w){R:Rk}{no:Nat}{u:Ub}{l:List aw}{G:List UInt8}{pm:List dg}{cs:List (Int×Ob)}{mo:Ob}{ring:Nat->Option Ub}{C:Chunk}
 (hD:Tt tp pr n w q R no u l G pm cs mo ring) (hC:bj p qs R C)
include cg yc hD hC
end
theorem Ke {a b i:Nat}(h1:a<=b+22528)(h2:b<=1+22528*i):a<=1+22528*(i+1):=Nat.le_trans h1 (Nat.le_trans (Nat.add_le_add_right h2 22528) (Nat.le_of_eq (by rw [Nat.mul_succ,Nat.add_assoc])))
theorem Sv {a ae note room:Nat}{G Z:List UInt8}{ad fg dy:Option Addr}{c cG cS:Nat}{D DG DS:Chunk}(hD:aC D 81 130 (.slice ad 0 c) 0 [])(h4:aC DG 5 1 (.slice fg 22528 cG) 22528 (au G))(h5:aC DS 5 1 (.slice dy 22528 cS) 22528 (au Z)) :
  yJ a [] ae note room G Z ([(a,iJ (.slice ad 0 c) ae note room (.slice fg 22528 cG) (.slice dy 22528 cS))]++(D++([]++(DG++DS)))):=⟨ad,c,D,[],fg,cG,DG,dy,cS,DS,MF.of hD,Nat.zero_le _,fun o ho=>(by cases ho),h4,h5,rfl⟩
structure aaZ (A:Chunk)(o:ry):Prop where
 b:∃ad m c bs,o.b = .slice ad m c/\Rd A 1 (.slice ad m c) m (au bs)/\bs.length=m/\m<=c/\m<=1048576
 x:o.x<9223372036854775808/\o.y<9223372036854775808
 nt:o.nt<18446744073709551616
section
variable {T:TypeId}{fr:Nat×Nat}{tp:Tp}{pr:Bool}{n q w i:Nat}(cg:Cg tp pr n q w)(hi:i<=1100000){r:Rg}{X:Chunk}(h:Inv T fr tp pr n q w i r X)
include cg hi h
end
section
variable {T:TypeId}{fr:Nat×Nat}{tp:Tp}{pr:Bool}{n w:Nat}(nJ:tp.nJ)(ok:dj tp pr n w)(n2:n<=2048)(hw:w=tp.leaves.toNat)
include nJ ok n2 hw
end
end Go.Proofs.YtpabnmeponmonaaGreatDoor
namespace Go.Sl
def Tv (ds:List Dk)(i a:Nat):eE:=((ds[i]?).bind fun x=>x.bP[a]?).getD []
theorem aa0 (R:Rk)(i a:Nat):R.pl i a=Tv R.ds i a:=rfl
section
variable {R S:Rk}(h:R.ds=S.ds)(i a:Nat)
include h
theorem Yh:R.pl i a=S.pl i a:=by unfold Rk.pl;rw [h]
omit a
theorem uN:R.size i=S.size i:=by unfold Rk.size;rw [h]
theorem uO:R.live i↔S.live i:=by unfold Rk.live;rw [h]
end
theorem aa1 {R S:Rk}(hS:S.on)(hd:R.ds=S.ds)(hw:R.ws=S.ws)(ho:R.off=false)(e:Ev) :
  ((R.ev e).off=true/\(R.ev e).ds=S.ds/\(R.ev e).ws=S.ws)\/((R.ev e).off=false/\(R.ev e).ds=(S.ev e).ds/\(R.ev e).ws=(S.ev e).ws):=by
 obtain ⟨h1,h2⟩:=hS
 cases e with
 | f d=>right;simp [Rk.ev,ho,h2,hd,hw]
 | w d a b =>
  simp only [Rk.ev,ho,h1,h2,Bool.false_eq_true,if_false]
  split
  ·right;simp [Rk.put,hd,hw,ho]
  ·left;simp [hd,hw]
  ·right;simp [Rk.put,hd,hw,ho]
theorem BX:∀(l:List Ev) {R S:Rk},S.on->R.ds=S.ds->R.ws=S.ws->R.off=false->∃l1 l2,l=l1++l2/\(R.run l).ds=(S.run l1).ds/\(R.run l).ws=(S.run l1).ws/\((R.run l).off=false->l2=[])
 | [],_,_,_,hd,hw,_=>⟨[],[],rfl,hd,hw,fun _=>rfl⟩
 | e :: l,R,S,hS,hd,hw,ho=>by
  rw [Rk.dC]
  rcases aa1 hS hd hw ho e with ⟨h1,h2,h3⟩ | ⟨h1,h2,h3⟩
  ·rw [Rk.iH h1]
   exact ⟨[],e :: l,rfl,h2,h3,fun h=>by rw [h1] at h;cases h⟩
  ·obtain ⟨l1,l2,rfl,k1,k2,k3⟩:=BX l (hS.ev e) h2 h3 h1
   exact ⟨e :: l1,l2,rfl,k1,k2,k3⟩
theorem xN {l:List Ev}{R S:Rk}(hS:S.on)(hd:R.ds=S.ds)(hw:R.ws=S.ws)(ho:(R.run l).off=false):(R.run l).ds=(S.run l).ds/\(R.run l).ws=(S.run l).ws:=by
 obtain ⟨l1,l2,rfl,h1,h2,h3⟩:=BX l hS hd hw (Rk.UA ho)
 obtain rfl:=h3 ho
 rw [append_nil] at *
 exact ⟨h1,h2⟩
theorem aa2 {R:Rk}{e:Ev}{x:Wt}(h:x∈(R.ev e).ws):x∈R.ws\/e = .w x.d x.at_ x.b:=by
 have hp:∀ {d a:Nat} {b:eE},x∈(R.put d a b).ws->x∈R.ws\/Ev.w d a b = .w x.d x.at_ x.b:=fun h=>by
  rcases List.mem_append.1 h with h | h
  ·exact .inl h
  ·rw [mem_singleton.1 h];exact .inr rfl
 cases e with
 | f d =>
  simp only [Rk.ev] at h
  split at h
  ·exact .inl h
  ·exact .inl (mem_filter.1 h).1
 | w d a b =>
  simp only [Rk.ev] at h
  split at h
  ·exact .inl h
  ·split at h
   ·exact hp h
   ·exact .inl h
   ·exact hp h
theorem Kf {x:Wt}:∀ {l:List Ev} {R:Rk},x∈(R.run l).ws->x∈R.ws\/Ev.w x.d x.at_ x.b∈l
 | [],_,h=>.inl h
 | e :: l,R,h=>by
  rw [Rk.dC] at h
  rcases Kf h with h | h
  ·rcases aa2 h with h | h
   ·exact .inl h
   ·rw [h];exact .inr (mem_cons_self ..)
  ·exact .inr (mem_cons_of_mem _ h)
theorem Yi {R:Rk}:∀ {l:List Ev},(∀e∈l,∃d,e = .f d)->(R.run l).off=R.off
 | [],_=>rfl
 | e :: l,h=>by
  rw [Rk.dC,Yi fun e he=>h e (mem_cons_of_mem _ he)]
  obtain ⟨d,rfl⟩:=h e (mem_cons_self ..)
  simp only [Rk.ev]
  split <;> rfl
theorem uP {R:Rk}{ls:List (Option Lv)}:(R.run (de ls)).off=R.off:=Yi fun e he=>by
 obtain ⟨k, -,h⟩:=dF.1 he
 unfold nz at h
 split at h
 ·exact ⟨_,mem_singleton.1 h⟩
 ·cases h
theorem Kg {w:Wt}:∀ {l:List Ev} {R:Rk},(∀d,Ev.f d∉l)->w∈R.ws->w∈(R.run l).ws
 | [],_,_,h=>h
 | e :: l,R,hf,h=>by
  rw [Rk.dC]
  refine Kg (fun d hd=>hf d (mem_cons_of_mem _ hd)) ?_
  cases e with
  | f d=>exact absurd (mem_cons_self ..) (hf d)
  | w d a b =>
   simp only [Rk.ev]
   split
   ·exact h
   ·split
    ·exact mem_append_left _ h
    ·exact h
    ·exact mem_append_left _ h
def qh (ds:List Dk)(ws:List Wt)(st:List Bool):Nat->List Dk
 | 0=>ds
 | j+1=>match ws[j]? with
  | some w=>if (st[j]?).getD false then (qh ds ws st j).modify w.d fun x=>{ x with bP:=x.bP.set w.at_ w.b } else qh ds ws st j
  | none=>qh ds ws st j
def Rk.up (R:Rk)(st:List Bool):Rk:=⟨(qh R.ds R.ws st R.ws.length).map Dk.back,[],none,false⟩
theorem WI (ds:List Dk)(d a i a':Nat)(b:eE):Tv (ds.modify d fun x=>{ x with bP:=x.bP.set a b }) i a'=Tv ds i a'\/(d=i/\a=a'/\Tv (ds.modify d fun x=>{ x with bP:=x.bP.set a b }) i a'=b):=by
 unfold Tv
 rw [getElem?_modify]
 cases hx:ds[i]? with
 | none=>left;simp
 | some x =>
  by_cases c:d=i
  ·by_cases c2:a=a'
   ·subst c c2
    by_cases c3:a<x.bP.length
    ·right;simp [c3]
    ·left;simp [c3]
   ·left;simp [c,c2]
  ·left;simp [c]
theorem Sw (ds:List Dk)(ws:List Wt)(st:List Bool)(i a:Nat):∀j,Tv (qh ds ws st j) i a=Tv ds i a\/∃w∈ws,w.d=i/\w.at_=a/\Tv (qh ds ws st j) i a=w.b
 | 0=>.inl rfl
 | j+1=>by
  have ih:=Sw ds ws st i a j
  rw [qh]
  split
  ·rename_i w hw
   split
   ·rcases WI (qh ds ws st j) w.d w.at_ i a w.b with h | ⟨h1,h2,h3⟩
    ·rw [h];exact ih
    ·exact .inr ⟨w,mem_of_getElem? hw,h1,h2,h3⟩
   ·exact ih
  ·exact ih
theorem uQ (ds:List Dk)(ws:List Wt)(st:List Bool)(i:Nat):∀j,((qh ds ws st j)[i]?).map (fun x=>(x.bP.length,x.now,x.dead))=(ds[i]?).map fun x=>(x.bP.length,x.now,x.dead)
 | 0=>rfl
 | j+1=>by
  have ih:=uQ ds ws st i j
  rw [qh]
  split
  ·split
   ·rename_i w hw _
    rw [<-ih,getElem?_modify]
    cases (qh ds ws st j)[i]? with
    | none=>simp
    | some x=>by_cases c:w.d=i <;> simp [c]
   ·exact ih
  ·exact ih
theorem uR (ds:List Dk)(ws:List Wt)(st:List Bool):∀j,(qh ds ws st j).length=ds.length
 | 0=>rfl
 | j+1=>by
  have ih:=uR ds ws st j
  rw [qh]
  split
  ·split
   ·rw [length_modify,ih]
   ·exact ih
  ·exact ih
theorem uS {ds:List Dk}{ws:List Wt}{st:List Bool}(hw:∀w∈ws,w.b.length=128)(hs:∀x∈ds,x.bP.length=x.now.length/\x.now.length<=8192/\(∀s∈x.bP,s.length=128)/\∀s∈x.now,s.length=128):∀j,∀x∈qh ds ws st j,x.bP.length=x.now.length/\x.now.length<=8192/\(∀s∈x.bP,s.length=128)/\∀s∈x.now,s.length=128
 | 0=>hs
 | j+1=>by
  have ih:=uS (st:=st) hw hs j
  rw [qh]
  split
  ·rename_i w PJ
   split
   ·intro x hx
    obtain ⟨y,hy,rfl | ⟨-,rfl⟩⟩:=mem_modify hx
    ·exact ih _ hy
    ·obtain ⟨h1,h2,h3,h4⟩:=ih y hy
     refine ⟨by simp only [length_set];exact h1,h2,fun s hs => ?_,h4⟩
     rcases mem_or_eq_of_mem_set hs with hs | rfl
     ·exact h3 s hs
     ·exact hw w (mem_of_getElem? PJ)
   ·exact ih
  ·exact ih
section
variable {R:Rk}(st:List Bool)(i a:Nat)
theorem Sx:(R.up st).on:=⟨rfl,rfl⟩
theorem Kh:(R.up st).pl i a=(R.up st).now i a:=by
 unfold Rk.now Rk.pl Rk.up
 simp only [getElem?_map]
 cases (qh R.ds R.ws st R.ws.length)[i]? <;> rfl
theorem Yj:(R.up st).now i a=R.pl i a\/∃w∈R.ws,w.d=i/\w.at_=a/\(R.up st).now i a=w.b:=by
 have e:(R.up st).now i a=Tv (qh R.ds R.ws st R.ws.length) i a:=by
  rw [<-Kh]
  unfold Rk.pl Rk.up Tv
  simp only [getElem?_map]
  cases (qh R.ds R.ws st R.ws.length)[i]? <;> rfl
 rw [e,aa0]
 exact Sw ..
theorem BY:(R.up st).live i↔R.live i:=by
 have h:=uQ R.ds R.ws st i R.ws.length
 unfold Rk.live Rk.up
 simp only [getElem?_map]
 have h2:=congrArg (Option.map fun (x:Nat×List eE×Bool)=>x.2.2) h
 rw [Option.map_map,Option.map_map] at h2
 rw [Option.map_map]
 exact iff_of_eq (congrArg (· = some false) h2)
theorem BZ (hR:R.Ok):(R.up st).size i=R.size i:=by
 have h:=uQ R.ds R.ws st i R.ws.length
 unfold Rk.size Rk.up
 simp only [getElem?_map]
 cases hx:R.ds[i]? with
 | none =>
  rw [hx] at h
  cases hy:(qh R.ds R.ws st R.ws.length)[i]? with
  | none=>rfl
  | some y=>rw [hy] at h;cases h
 | some x =>
  rw [hx] at h
  cases hy:(qh R.ds R.ws st R.ws.length)[i]? with
  | none=>rw [hy] at h;cases h
  | some y =>
   rw [hy] at h
   simp only [Option.map_some,Option.some.injEq,Prod.mk.injEq] at h
   have h1:=h.1
   have h2:=(hR.len x (mem_of_getElem? hx)).1
   simp only [Option.map_some,Option.getD_some,Dk.back]
   omega
theorem Rk.Ok.up (hR:R.Ok):(R.up st).Ok:=by
 have h:=uS (st:=st) (fun w hw=>(hR.ws w hw).2) (fun x hx=>⟨(hR.len x hx).1,(hR.len x hx).2,hR.sec x hx⟩) R.ws.length
 refine ⟨fun x hx => ?_,fun x hx => ?_,fun w hw=>by cases hw⟩
 ·obtain ⟨y,hy,rfl⟩:=mem_map.1 hx
  obtain ⟨h1,h2, -⟩:=h y hy
  exact ⟨rfl,by simp only [Dk.back];omega⟩
 ·obtain ⟨y,hy,rfl⟩:=mem_map.1 hx
  obtain ⟨-, -,h3, -⟩:=h y hy
  exact ⟨h3,h3⟩
end
theorem Sy {R S:Rk}{l:List Ev}(hS:S.on)(hd:R.ds=S.ds)(hw:R.ws=S.ws)(ho:R.off=false)(hS0:S.ws=[])(hl:∀d,Ev.f d∉l)(st:List Bool)(i a:Nat)(hq:S.pl i a=S.now i a):((R.run l).up st).now i a=S.now i a\/∃b,Ev.w i a b∈l/\((R.run l).up st).now i a=b:=by
 obtain ⟨l1,l2,rfl,h1,h2, -⟩:=BX l hS hd hw ho
 rcases Yj (R:=R.run (l1++l2)) st i a with h | ⟨w,hm,h3,h4,h⟩
 ·left
  rw [h,Yh h1,By (fun d hd=>hl d (mem_append_left _ hd)),hq]
 ·right
  rw [h2] at hm
  rcases Kf hm with hm | hm
  ·rw [hS0] at hm;cases hm
  ·rw [h3,h4] at hm
   exact ⟨w.b,mem_append_left _ hm,h⟩
section
variable {pr:Bool}{ls:List (Option Lv)}{n:Nat}{R R':Rk}{at_:Nat}{b:List UInt8}
theorem WJ (hI:pB ls)(hn:324<=n)(hp:pr=true->3<=ls.length)(hf:at_+aL pr ls.length b.length<=bD pr ls.length n)(hR:∀i a,i<ls.length->R'.now i a=R.now i a\/∃at' b' s,(at_+aL pr ls.length b.length<=at'\/at'+aL pr ls.length b'.length<=at_)/\Ev.w i a s∈qf pr ls at' b')(h:mq pr ls.length R at_ b):mq pr ls.length R' at_ b:=by
 have hl:=ak hp b
 have _:=hn
 have _:=hf
 have hm:=fun (at':Nat) (b':List UInt8) (i a:Nat) (s:eE)=>uI hI (pr:=pr) (at_:=at') (bs:=b') (fun h=>by have:=hp h;omega) (i:=i) (a:=a) (b:=s)
 cases pr with
 | true =>
  have:=hp rfl
  rw [mq,if_pos rfl] at h ⊢
  rw [if_pos rfl] at hl
  intro j s hj
  have pC:=(List.getElem?_eq_some_iff.1 hj).1
  rcases hR ((at_+j) % ls.length) (274+(at_+j) / ls.length) (Nat.mod_lt _ oZ) with e | ⟨at',b',s',hd,hb⟩
  ·rw [e];exact h j s hj
  ·have jI:=ak hp b'
   rw [if_pos rfl] at jI
   have hb:=(hm _ _ _ _ _).1 hb
   rw [if_pos rfl] at hb
   obtain ⟨j',h1,h2,h3⟩:=hb
   have aaQ:=(List.getElem?_eq_some_iff.1 h1).1
   have:=pX h2 oZ
   omega
 | false =>
  rw [mq,if_neg (by simp)] at h ⊢
  rw [if_neg (by simp)] at hl
  intro i hi j s hj
  have pC:=(List.getElem?_eq_some_iff.1 hj).1
  rcases hR i (274+at_+j) hi with e | ⟨at',b',s',hd,hb⟩
  ·rw [e];exact h i hi j s hj
  ·have jI:=ak hp b'
   rw [if_neg (by simp)] at jI
   have hb:=(hm _ _ _ _ _).1 hb
   rw [if_neg (by simp)] at hb
   obtain ⟨-,j',h1,h3⟩:=hb
   have aaQ:=(List.getElem?_eq_some_iff.1 h1).1
   omega
end
def fY (pr:Bool)(ls:List (Option Lv))(n:Nat)(D:List Nat)(l:List Ev):Prop:=∀e∈l,∃(k:Nat) (b:List UInt8),k∉D/\b.length<=1024/\(k+1)*aL pr ls.length 1024<=bD pr ls.length n/\e∈qf pr ls (k*aL pr ls.length 1024) b
section
variable {pr:Bool}{ls:List (Option Lv)}{n:Nat}{D E:List Nat}{l m:List Ev}
theorem fY.nil:fY pr ls n D []:=fun _ h=>by cases h
theorem fY.app (h:fY pr ls n D l)(k:fY pr ls n D m):fY pr ls n D (l++m):=fun e he=>(List.mem_append.1 he).elim (h e) (k e)
theorem fY.sub (h:fY pr ls n E l)(hs:∀k∈D,k∈E):fY pr ls n D l:=fun e he=>by
 obtain ⟨k,b,h1,h2⟩:=h e he
 exact ⟨k,b,fun c=>h1 (hs k c),h2⟩
theorem fY.afR (h:fY pr ls n D l)(d:Nat):Ev.f d∉l:=fun c=>by
 obtain ⟨k,b, -, -, -,h⟩:=h _ c
 exact Fm h
variable (hI:pB ls)(hn:324<=n/\n<=2048)(hw:1<=ls.length/\ls.length<=5)(hp:pr=true->3<=ls.length)
include hI hn hw hp
theorem fY.dat (h:fY pr ls n D l){i a:Nat}{s:eE}(he:Ev.w i a s∈l):i<ls.length/\274<=a/\a<n - 18:=by
 obtain ⟨k,b,h1,h2,h3,h4⟩:=h _ he
 have:=j3 (pr:=pr) hw hp h2
 rw [Nat.add_mul,Nat.one_mul] at h3
 exact RU hI hn.1 hp oZ h4
theorem dv.cr {R R':Rk}{pm:List dg}(h:dv pr ls.length n R pm)(hd:∀e∈pm,aM (aL pr ls.length 1024) e.x∈D)(hl:fY pr ls n D l)(hR:∀i a,i<ls.length->R'.now i a=R.now i a\/∃b,Ev.w i a b∈l):dv pr ls.length n R' pm:=by
 refine ⟨fun e he => ?_,h.inj⟩
 have he':=h.FB e he
 have bJ:=he'.fit
 have hm0:=j3 (pr:=pr) hw hp he'.bd.2
 rw [Nat.add_mul,Nat.one_mul] at bJ
 refine { he' with has:=WJ hI hn.1 hp oZ (fun i a hi => ?_) he'.has }
 rcases hR i a hi with c | ⟨b,hb⟩
 ·exact .inl c
 ·obtain ⟨k,b',h1,h2,h3,h4⟩:=hl _ hb
  refine .inr ⟨_,b',b, ?_,h4⟩
  have hm:=j3 (pr:=pr) hw hp h2
  have ey:k≠aM (aL pr ls.length 1024) e.x:=fun c=>h1 (c ▸ hd e he)
  rcases Nat.lt_or_gt_of_ne ey with c | c
  ·right
   have:=Nat.mul_le_mul_right (aL pr ls.length 1024) (show k+1<=aM (aL pr ls.length 1024) e.x from c)
   rw [Nat.add_mul,Nat.one_mul] at this
   omega
  ·left
   have:=Nat.mul_le_mul_right (aL pr ls.length 1024) (show aM (aL pr ls.length 1024) e.x+1<=k from c)
   rw [Nat.add_mul,Nat.one_mul] at this
   omega
end
theorem fY.one {pr:Bool}{ls:List (Option Lv)}{n k:Nat}{D:List Nat}{b:List UInt8}(hk:k∉D)(hb:b.length<=1024)(hz:(k+1:Int)*((aL pr ls.length 1024:Nat):Int)<=((bD pr ls.length n:Nat):Int)):fY pr ls n D (qf pr ls (k*aL pr ls.length 1024) b):=fun e he=>⟨k,b,hk,hb,by exact_mod_cast hz,he⟩
structure uT (qs:List Nat)(pr:Bool)(ls:List (Option Lv))(n:Nat)(P:PS)(c:Nat):Prop where
 off:P.R.off=false
 lv:dE qs P.R n ls
 ws:P.R.ws.length+40*(c+3)<=900000000000
 rm:P.x.D.length+c<=bD pr ls.length n / aL pr ls.length 1024
 ks:P.ks.length+c<=100000
theorem uT.le {qs:List Nat}{pr:Bool}{ls:List (Option Lv)}{n:Nat}{P:PS}{c d:Nat}(h:uT qs pr ls n P d)(hcd:c<=d):uT qs pr ls n P c :=
 ⟨h.off,h.lv,by have:=h.ws;omega,by have:=h.rm;omega,by have:=h.ks;omega⟩
def M4 (pr:Bool)(ls:List (Option Lv))(n:Nat)(P P':PS):Prop:=(∃l,P'.R=P.R.run l/\fY pr ls n P.x.D l)/\∀k∈P.x.D,k∈P'.x.D
theorem M4.rfl {pr:Bool}{ls:List (Option Lv)}{n:Nat}{P:PS}:M4 pr ls n P P:=⟨⟨[],Eq.refl _,.nil⟩,fun _ h=>h⟩
theorem M4.trans {pr:Bool}{ls:List (Option Lv)}{n:Nat}{P Q S:PS}(h:M4 pr ls n P Q)(k:M4 pr ls n Q S):M4 pr ls n P S:=by
 obtain ⟨⟨l,h1,h2⟩,h3⟩:=h
 obtain ⟨⟨m,k1,k2⟩,k3⟩:=k
 exact ⟨⟨l++m,by rw [k1,h1,Rk.dD],h2.app (k2.sub h3)⟩,fun x hx=>k3 x (h3 x hx)⟩
section
variable {qs:List Nat}{pr:Bool}{ls:List (Option Lv)}{n gt:Nat}{P P':PS}{b:List UInt8}{pt:Pt}{c:Nat}
theorem j4.CE (h:j4 pr ls n gt P b P' pt)(hb:b.length<=1024):M4 pr ls n P P':=by
 rcases h with ⟨-,rfl, -⟩ | ⟨-,k,hk,hz, -,rfl⟩
 ·exact .rfl
 ·exact ⟨⟨_,rfl,.one hk hb hz⟩,fun x hx=>mem_cons_of_mem _ hx⟩
theorem j4.okx (h:j4 pr ls n gt P b P' pt)(hw:1<=ls.length/\ls.length<=5)(hp:pr=true->3<=ls.length)(hb:b.length<=1024)(hP:uT qs pr ls n P (c+1))(ho:P'.R.off=false):uT qs pr ls n P' c:=by
 obtain ⟨h1,h2,h3,h4,h5⟩:=hP
 rcases h with ⟨-,rfl, -⟩ | ⟨dP,k, -, -, -,rfl⟩
 ·exact ⟨h1,h2,by omega,by omega,by omega⟩
 ·have Hc:1<=b.length:=by
   cases b with
   | nil=>cases dP
   | cons _ _=>simp
  have hl:=JC (pr:=pr) (ls:=ls) (at_:=k*aL pr ls.length 1024) (b:=b) ⟨Hc,hb⟩ hw.2 hp
  have h6:=Rk.eS P.R (qf pr ls (k*aL pr ls.length 1024) b)
  refine ⟨ho,h2.run _,sOZ,by simp only [Rm.take,length_cons];omega,by simp only [length_append,length_cons,length_nil];omega⟩
end
end Go.Sl
namespace Go.Proofs.YtpabnmeponmonaaGreatDoor
def Cb (T:TypeId)(fr:Nat×Nat)(p:Nat)(qs:List Nat)(pr:Bool)(ls:List (Option Lv))(n:Nat)(S:Chunk)(R:Rk)(D:List Nat)(Bs:List Chunk):Prop:=∃l C',fY pr ls n D l/\((R.run l).off=true/\(R.run l).ws.length<=900000000000)/\bj p qs (R.run l) C'/\Bs=[S,gK T fr,C']
theorem Cb.back {T:TypeId}{fr:Nat×Nat}{p:Nat}{qs:List Nat}{pr:Bool}{ls:List (Option Lv)}{n:Nat}{S:Chunk}{P P':PS}{Bs:List Chunk}(h:Cb T fr p qs pr ls n S P'.R P'.x.D Bs)(r:M4 pr ls n P P'):Cb T fr p qs pr ls n S P.R P.x.D Bs:=by
 obtain ⟨l,C',h1,h2,h3,rfl⟩:=h
 obtain ⟨⟨m,k1,k2⟩,k3⟩:=r
 rw [k1,<-Rk.dD] at h2 h3
 exact ⟨m++l,C',k2.app (h1.sub k3),h2,h3,rfl⟩
section
variable (T:TypeId)(fr:Nat×Nat)(p:Nat)(qs:List Nat)(t pool:Nat)(tp:Tp)(pr:Bool)(n:Nat)(ls:List (Option Lv))(no:Nat)(V:Chunk)(hV:iZ t pool tp pr n ls no V)(ok:dj tp pr n ls.length)(dq:n<=2048)(R:Rk)(C:Chunk)(hC:bj p qs R C)(ho:dE qs R n ls)(hall:∀x∈ls,x≠none)
variable (s al:Nat)(ra rd ae note:Nat)(g gt:Nat)(eV:1<=gt/\gt<=281474976710656)(ks:List Nat)(kI:ks.length<=100000)(G:Chunk)(hG:ri g s gt ((aL pr ls.length 1024:Nat):Int) ks G)
include hV ok dq hC ho hall eV kI hG
theorem aa3 (x:Rm)(Al:Chunk)(hA:qg al ((bD pr ls.length n:Nat):Int) ((aL pr ls.length 1024:Nat):Int) x Al)(hr:∃k:Nat,k∉x.D/\(k+1:Int)*((aL pr ls.length 1024:Nat):Int)<=((bD pr ls.length n:Nat):Int))(b:List UInt8)(L:Nat)(hL:b.length=L)(Mn:1<=L/\L<=1024)(hb:bx b=false)(O:Chunk)(v:Value)(hO:Rd O 1 v L (au b))(hw:R.ws.length+40<=900000000000) :
  Ct 128 [ptr g,v] [G,[(s,bU t (ptr al) ra rd ae note)],gK T fr,C,V,Al,O] fun u Bs=>(u = .tuple #[ai.agg,.int .i64 5]/\Cb T fr p qs pr ls n [(s,bU t (ptr al) ra rd ae note)] R x.D Bs)\/∃k:Nat,k∉x.D/\(k+1:Int)*((aL pr ls.length 1024:Nat):Int)<=((bD pr ls.length n:Nat):Int)/\(R.run (qf pr ls (k*aL pr ls.length 1024) b)).off=false/\u = .tuple #[(Hm (k*aL pr ls.length 1024) gt b 2).agg,.int .i64 0] /\
   ∃G' C' jO,ri g s gt ((aL pr ls.length 1024:Nat):Int) (ks++[k]) G'/\bj p qs (R.run (qf pr ls (k*aL pr ls.length 1024) b)) C'/\qg al ((bD pr ls.length n:Nat):Int) ((aL pr ls.length 1024:Nat):Int) (x.take k) jO/\Bs=[G',[(s,bU t (ptr al) ra rd ae note)],gK T fr,C',V,jO,O]:=by
 have dP:=AL v O b L hL hO
 rw [hb] at dP
 have eF:=aao s t pool tp pr n ls no V hV ok dq (ptr al) ra rd ae note
 have hmb:=tG pr ok.hw ok.hp
 have U0:=ir pr ok.hw ⟨ok.hn.1,dq⟩
 have MP:=j3 (pr:=pr) (w:=ls.length) (b:=L) ok.hw ok.hp Mn.2
 have mX:=fun k hk=>Qc T fr p qs t pool tp pr n ls no V hV ok R C hC ho hall (k*aL pr ls.length 1024) gt b L hL Mn 2 (.inr rfl) hk eV O v hO hw
 have EG:=Ve al ((bD pr ls.length n:Nat):Int) ((aL pr ls.length 1024:Nat):Int) oZ oZ x Al hA hr
 obtain ⟨fg,cG,DG,hDG,rfl⟩:=hG
 refine st func128 fun w0 => ?_
 refine gs ?_
 refine ga ?_;intro b4
 refine gc dP ?_
 rintro _ _ ⟨rfl,rfl⟩
 refine aav [[(g,ax [ptr s,.int .u64 gt,.slice fg ks.length cG] 140)],[(s,bU t (ptr al) ra rd ae note)]] (aB.cons (0,0) (aB.cons (1,0) (aB.cons (2,0) (aB.cons (3,0) (aB.cons (4,0) (aB.cons (5,0) (aB.cons (6,0) (aB.cons (7,0) (aB.cons (8,0) (aB.cons (9,0) (aB.cons (10,0) (aB.fork 11 (aB.fork 12 (aB.yh [(13,0),(14,0),(15,2),(16,1),(17,3),(18,2)]) 16 (aB.yh [(12,1),(13,0),(14,0),(15,2),(17,3),(18,2)])) 16 (aB.yh [(11,1),(12,1),(13,0),(14,0),(15,2),(17,3),(18,2)]))))))))))))) ?_
 refine gk ?_ ?_
 case' refine_2 =>
  refine ga ?_;intro b6
  refine gc eF ?_
  rintro _ _ ⟨adN,cN,DN,rfl,hDN,rfl⟩
  refine gc (EG DN adN cN hDN.rd) ?_
  rintro _ _ ⟨k,hk,jN,rfl,jO,aa4,rfl⟩
 case' refine_1 =>
  refine gc eF ?_
  rintro _ _ ⟨adN,cN,DN,rfl,hDN,rfl⟩
  refine gk ?_ ?_
 case' refine_1.refine_2 =>
  refine ga ?_;intro b6
  refine gc (EG DN adN cN hDN.rd) ?_
  rintro _ _ ⟨k,hk,jN,rfl,jO,aa4,rfl⟩
 case' refine_1.refine_1 =>
  refine gc (EG DN adN cN hDN.rd) ?_
  rintro _ _ ⟨k,hk,jN,rfl,jO,aa4,rfl⟩
  refine ga ?_;intro b6
 all_goals
  have hmul:((k:Int)*((aL pr ls.length 1024:Nat):Int))=((k*aL pr ls.length 1024:Nat):Int):=by rw [Int.natCast_mul]
  have afS:k*aL pr ls.length 1024+aL pr ls.length L<=bD pr ls.length n:=by
   have h1:((k*aL pr ls.length 1024:Nat):Int)+((aL pr ls.length 1024:Nat):Int)<=((bD pr ls.length n:Nat):Int):=by rw [<-hmul];rw [Int.add_mul,Int.one_mul] at jN;exact jN
   omega
  have mX:=mX k afS
  refine rQ [[(g,ax [ptr s,.int .u64 gt,.slice fg ks.length cG] 140)],[(b6,ax [.int .i64 0,.int .i64 ((k:Int)*((aL pr ls.length 1024:Nat):Int)),.int .i64 ((aL pr ls.length 1024:Nat):Int)] 166)]] [0,4,8,12,16,20,25,29,32,36,43] ?_
  refine gm ?_;intro b37
  refine gp ?_;intro adH cH DH hDH
  refine rQ [[(s,bU t (ptr al) ra rd ae note)],[(g,ax [ptr s,.int .u64 gt,.slice adH (ks.length+1) cH] 140)],[(b6,ax [.int .i64 0,.int .i64 ((k:Int)*((aL pr ls.length 1024:Nat):Int)),.int .i64 ((aL pr ls.length 1024:Nat):Int)] 166)]] [0,4,8,12,16,20,24,28,32,36,40,44,48,52,56,60,64,69,72,76,83,86] ?_
  refine go ?_
  rw [hmul]
  cases jx:(R.run (qf pr ls (k*aL pr ls.length 1024) b)).off
  ·rw [jx] at mX
   refine gc mX ?_
   rintro _ _ ⟨C',rfl,bF,rfl⟩
   refine gz ?_
   exact fin (.inr ⟨k,hk,jN,jx,rfl,_,C',jO,⟨adH,cH,DH,by simpa [LW,Pl.lay,lz] using hDH,rfl⟩,bF,aa4,rfl⟩) (by simp only [length_append,length_cons,length_nil];exact aa)
  ·rw [jx] at mX
   refine gc mX ?_
   rintro _ _ ⟨C',rfl,bF,rfl⟩
   refine gz ?_
   exact fin (.inl ⟨rfl,_,C',.one hk oZ jN,⟨jx,by
    have h1:=Rk.eS R (qf pr ls (k*aL pr ls.length 1024) b)
    have h2:=JC (pr:=pr) (ls:=ls) (at_:=k*aL pr ls.length 1024) (b:=b) oZ ok.hw.2 ok.hp
    omega⟩,bF,rfl⟩) aa
end
section
variable (T:TypeId)(fr:Nat×Nat)(p:Nat)(qs:List Nat)(t pool:Nat)(tp:Tp)(pr:Bool)(n:Nat)(ls:List (Option Lv))(no:Nat)(V:Chunk)(hV:iZ t pool tp pr n ls no V)(ok:dj tp pr n ls.length)(dq:n<=2048)(hall:∀x∈ls,x≠none)
variable (s al:Nat)(ra rd ae note:Nat)(g gt:Nat)(eV:1<=gt/\gt<=281474976710656)
include hV ok dq hall eV
theorem Ki (P:PS)(c:Nat)(hP:uT qs pr ls n P (c+1))(G C Al:Chunk)(hG:ri g s gt ((aL pr ls.length 1024:Nat):Int) P.ks G)(hC:bj p qs P.R C)(hA:qg al ((bD pr ls.length n:Nat):Int) ((aL pr ls.length 1024:Nat):Int) P.x Al)(b:List UInt8)(L:Nat)(hL:b.length=L)(Mn:L<=1024)(O:Chunk)(v:Value)(hO:Rd O 1 v L (au b)) :
  Ct 128 [ptr g,v] [G,[(s,bU t (ptr al) ra rd ae note)],gK T fr,C,V,Al,O] fun u Bs=>(u = .tuple #[ai.agg,.int .i64 5]/\Cb T fr p qs pr ls n [(s,bU t (ptr al) ra rd ae note)] P.R P.x.D Bs)\/∃P' pt,P'.R.off=false/\j4 pr ls n gt P b P' pt/\u = .tuple #[pt.agg,.int .i64 0] /\
   ∃G' C' jO,ri g s gt ((aL pr ls.length 1024:Nat):Int) P'.ks G'/\bj p qs P'.R C'/\qg al ((bD pr ls.length n:Nat):Int) ((aL pr ls.length 1024:Nat):Int) P'.x jO/\Bs=[G',[(s,bU t (ptr al) ra rd ae note)],gK T fr,C',V,jO,O]:=by
 obtain ⟨h1,h2,h3,h4,h5⟩:=hP
 cases hb:bx b with
 | true =>
  refine (Vs g G [(s,bU t (ptr al) ra rd ae note)] (gK T fr) C V Al b L hL hb O v hO).post fun u Bs => ?_
  rintro ⟨rfl,rfl⟩
  exact .inr ⟨P,ai,h1,.inl ⟨hb,rfl,rfl⟩,rfl,G,C,Al,hG,hC,hA,rfl⟩
 | false =>
  have Hc:1<=L:=by
   subst hL
   cases b with
   | nil=>cases hb
   | cons _ _=>simp
  refine (aa3 T fr p qs t pool tp pr n ls no V hV ok dq P.R C hC h2 hall s al ra rd ae note g gt eV P.ks oZ G hG P.x Al hA (H0 oZ) b L hL ⟨Hc,Mn⟩ hb O v hO oZ).post fun u Bs => ?_
  rintro (h | ⟨k,hk,jN,ho,rfl,G',C',jO,zp,bF,eo,rfl⟩)
  ·exact .inl h
  exact .inr ⟨⟨P.R.run (qf pr ls (k*aL pr ls.length 1024) b),P.x.take k,P.ks++[k]⟩,_,ho,.inr ⟨hb,k,hk,jN,rfl,rfl⟩,rfl,G',C',jO,zp,bF,eo,rfl⟩
end
end Go.Proofs.YtpabnmeponmonaaGreatDoor
namespace Go.Sl
section
variable {pr:Bool}{ls:List (Option Lv)}{n gt:Nat}{P P':PS}
theorem gQ.CE {bs:List (List UInt8)}{ps:List Pt}(h:gQ pr ls n gt P bs P' ps):(∀b∈bs,b.length<=1024)->M4 pr ls n P P':=by
 induction h with
 | nil=>exact fun _=>.rfl
 | snoc _ h ih=>exact fun hb=>(ih fun b h=>hb b (mem_append_left _ h)).trans (h.CE (hb _ (by simp)))
theorem WL {l:List Pt}(h:l.length<=16):(ei (fL l)).length<=1024:=by have:=lK (fL l);rw [iP] at this;omega
theorem kC.CE {l idx:List Pt}{root:Pt}(h:kC pr ls n gt P P' l idx root)(hl:l.length<=64):M4 pr ls n P P':=by
 rcases h with ⟨-,rfl, -, -⟩ | ⟨-,level,P1,h1,h2, -⟩
 ·exact .rfl
 ·have h3:=h1.len
  rw [oB] at h3
  exact (h1.CE nL).trans (h2.CE (WL (by rw [h3];unfold dh;omega)))
theorem Fq.CE {fresh:List (Int×List UInt8)}{l0 l1:List Pt}{ks:List Int}(hf:∀e∈fresh,e.2.length<=1024)(h:Fq pr ls n gt fresh P l0 ks P' l1):M4 pr ls n P P':=by
 induction h with
 | nil=>exact .rfl
 | snoc _ hl h ih=>exact ih.trans (h.CE (hf _ (aI hl)))
end
end Go.Sl
namespace Go.Proofs.YtpabnmeponmonaaGreatDoor
section
variable (T:TypeId)(fr:Nat×Nat)(p:Nat)(qs:List Nat)(t pool:Nat)(tp:Tp)(pr:Bool)(n:Nat)(ls:List (Option Lv))(no:Nat)(V:Chunk)(hV:iZ t pool tp pr n ls no V)(ok:dj tp pr n ls.length)(dq:n<=2048)(hall:∀x∈ls,x≠none)
variable (s al:Nat)(ra rd ae note:Nat)(g gt:Nat)(eV:1<=gt/\gt<=281474976710656)
include hV ok dq hall eV
theorem aa5 (P:PS)(c:Nat)(l:List Pt)(N:Nat)(hl:l.length=N)(hN:N<=64)(mU:∀x∈l,fK x=0/\x.Ok)(hP:uT qs pr ls n P (c+yf N))(G C Al:Chunk)(hG:ri g s gt ((aL pr ls.length 1024:Nat):Int) P.ks G)(hC:bj p qs P.R C)(hA:qg al ((bD pr ls.length n:Nat):Int) ((aL pr ls.length 1024:Nat):Int) P.x Al)(O:Chunk)(ad:Option Addr)(cO:Nat)(hO:Rd O 9 (.slice ad N cO) N (aR l))(hc:N<=cO) :
  Ct 129 [ptr g,.slice ad N cO,.func (.func 128) #[ptr g] #[]] [G,[(s,bU t (ptr al) ra rd ae note)],gK T fr,C,V,Al,O] fun u Bs=>(u = .tuple #[.slice none 0 0,ai.agg,.int .i64 5]/\Cb T fr p qs pr ls n [(s,bU t (ptr al) ra rd ae note)] P.R P.x.D Bs)\/∃P' idx root adX cX DX,kC pr ls n gt P P' l idx root/\uT qs pr ls n P' c/\u = .tuple #[.slice adX idx.length cX,root.agg,.int .i64 0]/\aC DX 121 9 (.slice adX idx.length cX) idx.length (aR idx) /\
   ∃G' C' jO,ri g s gt ((aL pr ls.length 1024:Nat):Int) P'.ks G'/\bj p qs P'.R C'/\qg al ((bD pr ls.length n:Nat):Int) ((aL pr ls.length 1024:Nat):Int) P'.x jO/\Bs=[G',[(s,bU t (ptr al) ra rd ae note)],gK T fr,C',V,jO,O,DX]:=by
 have hz:=Rr pr ok.hw ⟨ok.hn.1,dq⟩
 have bR:=fun P c hP G C Al hG hC hA b L hL Mn O v hO=>Ki T fr p qs t pool tp pr n ls no V hV ok dq hall s al ra rd ae note g gt eV P c hP G C Al hG hC hA b L hL Mn O v hO
 have Cl:dh N 16<=4:=by unfold dh;omega
 have Gc:=oB l
 rw [hl] at Gc
 have Yk:=Pz O ad N cO l hl hO hc oZ mU
 refine st func129 fun w0 => ?_
 refine ga ?_;intro b7
 refine gc Yk ?_
 rintro _ _ ⟨iY,c1,vs,D0,V0,rfl,Gb,Ur,rfl⟩
 have wC:=Gb.rd
 have hov:=aaD N
 obtain ⟨e,he⟩:∃e,e=yf N:=⟨_,rfl⟩
 obtain ⟨nb,ade⟩:∃nb,nb=dh N 16:=⟨_,rfl⟩
 rw [<-he] at hov hP
 rw [<-ade] at Cl Gc Gb wC hov ⊢
 refine gl [0,2,7,27,28] (fun ((i,v11,_):Nat×Value×List Pt×PS×Chunk×Chunk×Chunk×Chunk)=>[(29,.int .i64 i),(11,v11)]) (fun (_,_,_,_,G,C,Al,D)=>[G,C,Al,D]) (fun (i,v11,lv,P1,G,C,Al,D)=>i<=nb/\gQ pr ls n gt P ((lh l).take i) P1 lv/\uT qs pr ls n P1 (c+(e - i))/\ri g s gt ((aL pr ls.length 1024:Nat):Int) P1.ks G/\bj p qs P1.R C/\qg al ((bD pr ls.length n:Nat):Int) ((aL pr ls.length 1024:Nat):Int) P1.x Al/\(∃ad c,v11 = .slice ad i c)/\aC D 121 9 v11 i (aR lv)/\∀x∈lv,fK x=0/\x.Ok) (fun (i,_)=>nb - i) (0,.slice none 0 0,[],P,G,C,Al,[]) ⟨by omega,.nil,hP,hG,hC,hA,⟨none,0,rfl⟩,aC.nil _ _,fun _ h=>by cases h⟩ ?_
 clear hG hC hA hP Yk
 rintro ⟨i,v11,lv,P1,G,C,Al,D⟩ ⟨hi,Yl,hP1,hG,hC,hA,⟨afT,c11,rfl⟩,hD,xg⟩
 have afU:=Yl.len
 rw [length_take] at afU
 refine gi ?_ ?_ <;> intro br
 ·have bh:i<(lh l).length:=oZ
  obtain ⟨v,ZJ,yr⟩:=Ur.rd bh
  have Nl:=nL _ (getElem_mem bh)
  obtain ⟨g1,o1,rfl⟩:=wC.addr oZ
  have yM:uT qs pr ls n P1 (c+(e - (i+1))+1):=by rw [show c+(e - (i+1))+1=c+(e - i) by omega];exact hP1
  have ue:=bR P1 _ yM G C Al hG hC hA (lh l)[i] _ rfl Nl V0 v yr
  obtain ⟨kK,cv,rfl⟩:=yr.slice
  refine gc ue ?_
  rintro _ _ (⟨rfl,hf⟩ | ⟨P2,pt,xS,mF,rfl,G',C',jO,zp,bF,eo,rfl⟩)
  ·obtain ⟨lF,CF,f1,f2,f3,rfl⟩:=hf.back (Yl.CE fun b hb=>nL b (mem_of_mem_take hb))
   refine ga ?_;intro Z5
   refine gz ?_
   exact fin (.inl ⟨rfl,lF,CF,f1,f2,f3,rfl⟩) aa
  have Kj:=mF.okx ok.hw ok.hp Nl yM xS
  have adf:=mF.pok hz Nl eV
  refine ga ?_;intro Z5
  refine gm ?_;intro b45
  refine gp ?_;intro afV c12 D12 afW
  refine gn ?_
  refine ⟨(i+1,_,lv++[pt],P2,G',C',jO,D12),⟨by omega,by rw [iB bh];exact .snoc Yl mF,Kj,zp,bF,eo,⟨afV,c12,rfl⟩,by simpa [aR,Pt.lay] using afW,fun x hx => ?_⟩,sOZ,ar,_,aa⟩
  rcases List.mem_append.1 hx with hx | hx
  ·exact xg x hx
  ·rw [mem_singleton.1 hx];exact adf
 ·obtain rfl:i=nb:=oZ
  rw [take_of_length_le oZ] at Yl
  have aa6:lv.length=i:=by have:=Yl.len;omega
  have aa7:=Pz D afT i c11 lv aa6 hD.rd (by have:=hD.eH;omega) oZ xg
  refine gc aa7 ?_
  rintro _ _ ⟨ad2,c2,vs2,D2,V2,rfl,Dy,hV2,rfl⟩
  by_cases h0:i=0
  ·subst h0
   have Li:l=[]:=eq_nil_of_length_eq_zero (by unfold dh at ade;omega)
   have afX:lv=[]:=eq_nil_of_length_eq_zero aa6
   subst Li afX
   have hPP:P1=P:=Yl.VH rfl
   subst hPP
   refine gz ?_
   exact fin (.inr ⟨P1,[],ai,none,0,[],.inl ⟨rfl,rfl,rfl,rfl⟩,hP1.le oZ,rfl,aC.nil _ _,G,C,Al,hG,hC,hA,rfl⟩) aa
  ·have Nw:dh i 16=1:=pJ oZ oZ
   rw [Nw] at Dy
   rw [Nw]
   have fJ:=MK (l:=lv) oZ oZ
   rw [fJ] at hV2
   obtain ⟨v,ZJ,yr⟩:=hV2.rd (i:=0) (by simp)
   have Nl:(ei (fL lv)).length<=1024:=by have:=lK (fL lv);rw [iP] at this;omega
   have afY:=Dy.rd
   obtain ⟨g2,o2,rfl⟩:=afY.addr oZ
   have yM:uT qs pr ls n P1 (c+1):=by rw [show c+1=c+(e - i) by omega];exact hP1
   have ue:=bR P1 _ yM G C Al hG hC hA (ei (fL lv)) _ rfl Nl V2 v yr
   obtain ⟨kK,cv,rfl⟩:=yr.slice
   refine gc ue ?_
   rintro _ _ (⟨rfl,hf⟩ | ⟨P2,pt,xS,mF,rfl,G',C',jO,zp,bF,eo,rfl⟩)
   ·obtain ⟨lF,CF,f1,f2,f3,rfl⟩:=hf.back (Yl.CE fun b hb=>nL b hb)
    refine ga ?_;intro b17
    refine gz ?_
    exact fin (.inl ⟨rfl,lF,CF,f1,f2,f3,rfl⟩) aa
   have Kj:=mF.okx ok.hw ok.hp Nl yM xS
   refine ga ?_;intro b17
   refine rQ [[(b17,ax pt.lay 121)]] [0,4,16,9,13,20,27,30] ?_
   refine gm ?_;intro b76
   refine gp ?_;intro adX cX DX hDX
   have uk:l≠[]:=fun h=>by subst h;simp [lh,jV,dh,la] at Gc;omega
   have hix:(lv++[pt]).length=i+1:=by simp [aa6]
   refine gz ?_
   exact fin (.inr ⟨P2,lv++[pt],pt,adX,cX,DX,.inr ⟨uk,lv,P1,Yl,mF,rfl⟩,Kj,by rw [hix],by rw [hix];simpa [aR,Pt.lay] using hDX,G',C',jO,zp,bF,eo,rfl⟩) aa
end
end Go.Proofs.YtpabnmeponmonaaGreatDoor
