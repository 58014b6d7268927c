/- Part 16. No condition. -/
import Derived.Test.YtcikkglcoeedlaaGreatBk4
import Derived.Test.YtcikkglcoeedlaaGreatBk8
set_option linter.unusedSimpArgs false
set_option linter.unusedVariables false
set_option maxRecDepth 100000
set_option maxHeartbeats 1600000
namespace Go.Proofs.YtcikkglcoeedlaaGreat
open _root_.Go.Proofs.Tryz
open Go.RowKit
variable{n b:Nat}{w q:World}
theorem A0k(a b:Nat->Int)(k n:Nat):Jd a b k (n+1)=if a k<b k then -1 else if b k<a k then 1 else Jd a b (k+1) n:=by
 have e:Ml a b k=a k-b k:=rfl;have A:a k<b k↔Ml a b k<0:=by rw[e];omega
 have B:b k<a k↔0<Ml a b k:=by rw[e];omega
 rw[LP,LP,EI];simp only[A,B];generalize Ml a b k=d;by_cases h:d=0
 .subst h;simp
 .rw [Yai h]
  by_cases L:d<0
  .simp [L]
  .simp [L,show 0<d by omega]
theorem A3t(a b:Nat->Int)(w:World) :
  Calls prog 229 #[.agg #[.int .i64 (a 0),.int .i64 (a 1),.int .i64 (a 2),.int .i64 (a 3),.int .i64 (a 4),.int .i64 (a 5),.int .i64 (a 6),.int .i64 (a 7)],.agg #[.int .i64 (b 0),.int .i64 (b 1),.int .i64 (b 2),.int .i64 (b 3),.int .i64 (b 4),.int .i64 (b 5),.int .i64 (b 6),.int .i64 (b 7)]] w λe N=>e=.returned (.int .i64 (Ih a b))/\Ext w N:=by
 go_enter func229,ntmps229;go_wp2;go_loopw [5] (λi wr=>∃k:Nat,k<=8/\i=.int .i64 k/\Hid (Ih a b=Jd a b k (8-k)/\Blk wr w.heap.size 112 (c8 a)/\Blk wr (w.heap.size+1) 112 (c8 b)/\Ext w wr)) (λi _=>8-(intOf i).toNat)
 case atStart=>exact⟨0,by omega,rfl,rfl,(Blk.new _ _ _).alloc _,ES _ _ ZbS,((Ext.refl _).alloc _).alloc _⟩
 case round=>
  obtain⟨k,C,rfl,E⟩:=hrel;by_cases Q:k<8
  .have L:decide ((k:Int)<8)=true:=Zip
   have p:=E.out.2.1.at8 Q;have q:=E.out.2.2.1.at8 Q;have Y:Hid (Jd a b k (8-k)=if a k<b k then -1 else if b k<a k then 1 else Jd a b (k+1) (8-(k+1))):=by rw[show 8-k=(8-(k+1))+1 by omega];exact A0k a b k _
   generalize a k=x at *;generalize b k=y at *;by_cases A:x<y
   .have h:=Y.out
    rw[Yan A]at h;replace h:=Af h;clear Y;go_wp2;go_quiet (fail);go_wp2;go_ret;exact⟨by rw[E.out.1,h.out];rfl,E.out.2.2.2.drewN _⟩
   .by_cases B:y<x
    .have h:=Y.out
     rw[Yai A,Yan B]at h;replace h:=Af h;clear Y;go_wp2;go_quiet (fail);go_wp2;go_quiet (fail);go_wp2;go_ret;exact⟨by rw[E.out.1,h.out];rfl,(E.out.2.2.2.drewN _).drewN _⟩
    .have h:=Y.out
     rw[Yai A,Yai B]at h;replace h:=Af h;clear Y;go_wp2;go_quiet (fail);go_wp2;go_quiet (fail);go_wp2;exact⟨⟨k+1,Q,by simp,by rw[E.out.1,h.out],E.out.2.1,E.out.2.2.1,E.out.2.2.2.drewN _⟩,by simp[intOf];omega⟩
  .obtain rfl:k=8:=by omega
   have L:decide (((8:Nat):Int)<8)=false:=by simp
   go_wp2;go_ret;exact⟨by rw[E.out.1];rfl,E.out.2.2.2⟩
theorem A69(w:World):Calls prog 129 #[] w (NK [] w):=by
 go_enter func129,ntmps129;go_wp2;go_ret;exact⟨_,_,rfl,OwnRows.blk (R:=[]) (Yah _) (Blk.new _ _ _) rfl ZbS,(Ext.refl _).alloc _⟩
theorem A76:(rl [BW 255]).toArray=#[.int .i64 1,.int .i64 1,.int .i64 1,.int .i64 1,.int .i64 1,.int .i64 1,.int .i64 1,.int .i64 1]:=rfl
theorem PT(w:World):Calls prog 130 #[] w (NK [BW 255] w):=by
 go_enter func130,ntmps130;go_wp2;go_ret;exact⟨_,_,rfl,OwnRows.blk (R:=[BW 255]) (Yah _) (by rw[A76];exact Blk.new _ _ _) rfl ZbS,(Ext.refl _).alloc _⟩
theorem A3p(i:Nat)(n:Int)(w:World)(K:i<8) :
  Calls prog 231 #[.int .i64 i,.int .i64 n] w λe N=>e=.returned (.agg #[.int .i64 (KO i n 0),.int .i64 (KO i n 1),.int .i64 (KO i n 2),.int .i64 (KO i n 3),.int .i64 (KO i n 4),.int .i64 (KO i n 5),.int .i64 (KO i n 6),.int .i64 (KO i n 7)])/\Ext w N:=by
 rcases lt8 K with rfl | rfl | rfl | rfl | rfl | rfl | rfl | rfl
 all_goals
  go_enter func231,ntmps231;go_wp2;refine bodyPost_ret (v:=.agg (c8 (KO _ n))) ?_ rfl ⟨rfl,?_⟩
  .simp [results,Tryz.results231,go_sem,KO,c8]
  .exact ((Ext.refl _).alloc _).alloc _
theorem A2K(k:Nat):KO k (-1)=DY k:=rfl
theorem NL(w:World):Calls prog 131 #[] w (NK revRows w):=by
 go_enter func131,ntmps131;go_wp2_with fail;refine(PT _).mono ?_;rintro e j ⟨h,W,rfl,Q,L⟩;replace Q:=Af Q;replace L:=Af L;go_wp2;go_loopw [1,2] (λv i wr=>∃(k:Nat) (R:List (Nat->Int)) (A:Option Addr) (c:Nat),k<=7/\i=.int .i64 k/\v=.slice A R.length c/\Hid (R++Gk k=revRows/\OwnRows 36 w.heap.size wr (.slice A R.length c) R/\Ext w wr)) (λ_ i _=>(intOf i).toNat)
 case atStart=>exact⟨7,[BW 255],_,_,by omega,rfl,rfl,rfl,Q.out,L.out⟩
 case round=>
  obtain⟨k,R,A,c,C,rfl,rfl,B⟩:=hrel;clear Q L
  match k,C,B with
  |0,C,B=>
   have e:R=revRows:=by have:=B.out.1;rwa [Gk,YbD]at this
   subst e;go_wp2;go_ret;exact⟨A,c,rfl,B.out.2.1,B.out.2.2⟩
  |k+1,C,B=>
   have E:Hid (R++[DY (k+1)]++Gk k=revRows):=by have:=B.out.1;rw[Gk]at this;rw[<-this];show _++_++_=_;rw[Yaf];rfl
   have J:R.length<=8:=by have:=congrArg List.length B.out.1;rw[Iz,Yaa,Iy]at this;omega
   have H:decide (0<k+1)=true:=by simp
   have O:((k+1:Nat):Int)-1=k:=by omega
   obtain⟨n,f⟩:∃n,n=k+1:=⟨_,rfl⟩;have V:n<8:=by omega
   have S:0<n:=by omega
   rw[<-f]at E H O ⊢;replace f:=Af f;replace O:=Af O;go_wp2_with fail;refine(A3p n (-1) _ V).mono ?_;rintro e G ⟨rfl,F⟩;rw[A2K]at *
   obtain⟨K,l,N,p,M,P⟩:=NF (base:=w.heap.size) (w:=G.alloc (.cells #[.int .i64 (DY n 0),.int .i64 (DY n 1),.int .i64 (DY n 2),.int .i64 (DY n 3),.int .i64 (DY n 4),.int .i64 (DY n 5),.int .i64 (DY n 6),.int .i64 (DY n 7)] 36)) (S:=[DY n]) (x:=.slice (some ⟨G.heap.size,0,none⟩) 1 1)
    ((B.out.2.1.ext F).ext ((Ext.refl _).alloc _)) (OwnRows.blk (R:=[DY n]) (c:=1) (base:=0) (g:=G.heap.size) (Yaw _) (Blk.new _ _ _) rfl ZbS).rows ZbS Zip (by have:=B.out.2.2.size;have:=F.size;simp;omega)
   have I:Hid (Ext w N):=((B.out.2.2.trans F).alloc _).grown' P B.out.2.1.base_le;replace p:=Af p;replace M:=Af M;clear P;go_wp2_with (at_builtin;go_loud (refine GI rfl _ _ _ rfl _ _ rfl rfl p.out ?_));exact⟨⟨k,R++[DY n],K,l,by omega,by rw[O.out],by simp,E.out,by simpa using M.out,I.out⟩,by have:=f.out;simp[intOf];omega⟩
def OwnV(base:Nat)(v:Value)(w:World)(R:List (Nat->Int)):Prop:=∃A c,v=.slice A R.length c/\OwnRows 36 base w (.slice A R.length c) R
theorem OwnV.ext{base:Nat}{v:Value}{R:List (Nat->Int)}(h:OwnV base v w R)(b:Ext w q):OwnV base v q R:=by
 obtain⟨A,c,B,C⟩:=h;exact⟨A,c,B,C.ext b⟩
theorem Blk.skip8{t:TypeId}{a:Nat->Int}(h:Blk w n t (Go.Proofs.YtcikkglcoeedlaaGreat.c8 (Td a b)))(o:a b=0):Blk w n t (Go.Proofs.YtcikkglcoeedlaaGreat.c8 (Td a (b+1))):=by
 rw[ND (b:=Td a b) λi _=>?_]
 .exact h
 .by_cases A:i<b
  .rw [Kb A,Kb ZbD]
  .rw [Qi A]
   by_cases B:i=b
   .rw [B,Kb ZbD,o]
   .rw [Qi ZbD]
theorem Pd(m:Nat)(w:World)(x:m<256):Calls prog 132 #[.int .u8 m] w (NK (BW m::revRows) w):=by
 go_enter func132,ntmps132;go_wp2;go_loopw [4] (λi wr=>∃k:Nat,k<=8/\i=.int .i64 k/\Hid (Blk wr w.heap.size 36 (c8 (Td (BW m) k))/\Ext w wr)) (λi _=>8-(intOf i).toNat)
 case atStart=>exact⟨0,by omega,rfl,Blk.new _ _ _,(Ext.refl _).alloc _⟩
 case round=>
  obtain⟨k,C,rfl,G⟩:=hrel;by_cases Q:k<8
  .have xf:decide ((k:Int)<8)=true:=Zip
   go_wp2_with fail;refine(Aar m k _ x Q).mono ?_;rintro e _ ⟨rfl,rfl⟩;have xb:=Af (A07 (m:=m) (i:=k))
   cases F:m.testBit k with
   |true=>
    have B:Hid (BW m k=1):=by rw[xb.out,F];rfl
    have g:=G.out.1.at8 Q;have T:=G.out.1.frozen k;replace F:=Af F;clear xb;go_wp2;exact⟨⟨k+1,Q,by simp,G.out.1.up8 Q B.out.symm,G.out.2.set (p:=⟨w.heap.size,k,none⟩) (Yah _) _⟩,by simp[intOf];omega⟩
   |false=>
    have B:Hid (BW m k=0):=by rw[xb.out,F];rfl
    replace F:=Af F;clear xb;go_wp2;exact⟨⟨k+1,Q,by simp,G.out.1.skip8 B.out,G.out.2⟩,by simp[intOf];omega⟩
  .obtain rfl:k=8:=by omega
   have d:=Af G.out.1.full8;have r:=Af G.out.2;clear G;have xf:decide (((8:Nat):Int)<8)=false:=by simp
   go_upto_region 7 with(fail)
   obtain⟨n,y⟩:∃n,n=w.heap.size:=⟨_,rfl⟩;rw[<-y]at d ⊢;replace y:=Af y
   refine wp_region_v ZbI [[], [(15, 0)], []] [[], [0], []]
    [λv _=>v=.agg #[.int .i64 (BW m 0),.int .i64 (BW m 1),.int .i64 (BW m 2),.int .i64 (BW m 3),.int .i64 (BW m 4),.int .i64 (BW m 5),.int .i64 (BW m 6),.int .i64 (BW m 7)],λv N=>OwnV w.heap.size v N [BW m],λv N=>OwnV w.heap.size v N revRows]
    rfl ZbI ZbI ?stab ?steps ?fin
   case stab=>exact .cons (Stab.eq _) (.cons (λ_ _ _ b h=>h.ext b) (.cons (λ_ _ _ b h=>h.ext b) .nil))
   case steps=>
    refine .cons ?s0 (.cons ?s1 (.cons ?s2 .nil))
    case s0=>
     intro N E V C p I t;have H:E (.tmp 3)=.pointer (some ⟨n,0,none⟩):=p 3 ZbH;have W:N.cell? ⟨n,0,none⟩=some (.int .i64 (BW m 0)):=V.cellv (d.out.cell 0);have L:N.cell? ⟨n,1,none⟩=some (.int .i64 (BW m 1)):=V.cellv (d.out.cell 1);have K:N.cell? ⟨n,2,none⟩=some (.int .i64 (BW m 2)):=V.cellv (d.out.cell 2);have X:N.cell? ⟨n,3,none⟩=some (.int .i64 (BW m 3)):=V.cellv (d.out.cell 3);have a:N.cell? ⟨n,4,none⟩=some (.int .i64 (BW m 4)):=V.cellv (d.out.cell 4);have u:N.cell? ⟨n,5,none⟩=some (.int .i64 (BW m 5)):=V.cellv (d.out.cell 5);have z:N.cell? ⟨n,6,none⟩=some (.int .i64 (BW m 6)):=V.cellv (d.out.cell 6);have c7:N.cell? ⟨n,7,none⟩=some (.int .i64 (BW m 7)):=V.cellv (d.out.cell 7);exact AD (by simp[execOp,H,W,L,K,X,a,u,z,c7,go_sem]) rfl
    case s1=>
     intro N E V C p I t;have U:E (.tmp 15)=.agg #[.int .i64 (BW m 0),.int .i64 (BW m 1),.int .i64 (BW m 2),.int .i64 (BW m 3),.int .i64 (BW m 4),.int .i64 (BW m 5),.int .i64 (BW m 6),.int .i64 (BW m 7)]:=C.1 _ rfl;exact XB (by simp[execOp,U,go_sem]) ((Ext.refl _).alloc _) ⟨_,_,rfl,OwnRows.blk (w:=N.alloc (.cells #[.int .i64 (BW m 0),.int .i64 (BW m 1),.int .i64 (BW m 2),.int .i64 (BW m 3),.int .i64 (BW m 4),.int .i64 (BW m 5),.int .i64 (BW m 6),.int .i64 (BW m 7)] 36)) (R:=[BW m]) (Yat r.out.size V.size) (Blk.new _ _ _) rfl ZbS⟩
    case s2=>
     intro N E V C p I t;refine CF (by simp[execOp,resolve,invoke,t,go_sem]) (NL _) ?_;rintro e j ⟨A,c,rfl,Y,R⟩;exact⟨_,rfl,R,⟨A,c,rfl,Y.base_mono (Yat r.out.size V.size)⟩⟩
   case fin=>
    intro gf N V hF;have f1:=hF 1 _ rfl;have f2:=hF 2 _ rfl;obtain⟨o,L,Z,xa⟩:=f1;obtain⟨q,K,s,xd⟩:=f2;simp only[Yav,Ybv,Nat.reduceAdd,Ybp,YaU,Ybi,YbX,FA,Act.put,Yba,Yby,YbN,Z,s];replace V:=(Ext.refl wr).drew.trans V;have J:=V.size;have xe:=r.out.size;obtain⟨O,l,M,S,xc,P⟩:=NF (base:=w.heap.size) (w:=N) (v:=.slice o 1 L) (R:=[BW m]) (S:=revRows) (x:=.slice q revRows.length K) xa xd.rows (by rw[Iz];omega) (by rw[Iz];simp) ZbD;have f:Hid (Ext w M):=(r.out.trans V).grown' P xa.base_le;replace S:=Af S;replace xc:=Af xc;replace xa:=Af xa;replace xd:=Af xd;replace V:=Af V;clear P hF Z s;go_wp2_with (at_builtin;go_loud (refine GI rfl _ _ _ rfl _ _ rfl rfl S.out ?_));go_ret;refine⟨O,l,?_,?_,f.out⟩
    .rw [Yav,YcX];rfl
    .have:=xc.out;rw[Yav,YcX];exact this
