/- Part 16. No condition. -/
import Derived.Test.YtcikkglcoeedlaaGreatDm4
import Derived.Test.YtcikkglcoeedlaaGreatDm8
set_option linter.all false
set_option maxRecDepth 100000
set_option maxHeartbeats 1600000
namespace Go.Proofs.YtcikkglcoeedlaaGreat
open _root_.Go.Proofs.Tryz
open Go.RowKit
variable{n b:Nat}{w p:World}
theorem A0S(a b:Nat->Int)(k n:Nat):Js a b k (n+1)=if a k<b k then -1 else if b k<a k then 1 else Js a b (k+1) n:=by
 have B:MQ a b k=a k-b k:=rfl;have q:a k<b k↔MQ a b k<0:=by rw[B];omega
 have A:b k<a k↔0<MQ a b k:=by rw[B];omega
 rw[Mu,Mu,EL];simp only[q,A];generalize MQ a b k=d;by_cases h:d=0
 .subst h;simp
 .rw [Yaj h]
  by_cases K:d<0
  .simp [K]
  .simp [K,show 0<d by omega]
theorem A4a(a b:Nat->Int)(w:World) :
  Calls prog 229 #[.agg #[.int .i64 (a 0),.int .i64 (a 1),.int .i64 (a 2),.int .i64 (a 3),.int .i64 (a 4),.int .i64 (a 5),.int .i64 (a 6),.int .i64 (a 7)],.agg #[.int .i64 (b 0),.int .i64 (b 1),.int .i64 (b 2),.int .i64 (b 3),.int .i64 (b 4),.int .i64 (b 5),.int .i64 (b 6),.int .i64 (b 7)]] w λe N=>e=.returned (.int .i64 (Iv a b))/\Ext w N:=by
 go_enter func229,ntmps229;go_wp2;go_loopw [5] (λi wr=>∃k:Nat,k<=8/\i=.int .i64 k/\Hid (Iv a b=Js a b k (8-k)/\Blk wr w.heap.size 112 (c8 a)/\Blk wr (w.heap.size+1) 112 (c8 b)/\Ext w wr)) (λi _=>8-(intOf i).toNat)
 case atStart=>exact⟨0,by omega,rfl,rfl,(Blk.new _ _ _).alloc _,EV _ _ ZbR,((Ext.refl _).alloc _).alloc _⟩
 case round=>
  obtain⟨k,B,rfl,m⟩:=hrel;by_cases O:k<8
  .have E:decide ((k:Int)<8)=true:=ZiI
   have F:=m.out.2.1.at8 O;have G:=m.out.2.2.1.at8 O;have C:Hid (Js a b k (8-k)=if a k<b k then -1 else if b k<a k then 1 else Js a b (k+1) (8-(k+1))):=by rw[show 8-k=(8-(k+1))+1 by omega];exact A0S a b k _
   generalize a k=x at *;generalize b k=y at *;by_cases q:x<y
   .have h:=C.out
    rw[Yao q]at h;replace h:=Af h;clear C;go_wp2;go_quiet (fail);go_wp2;go_ret;exact⟨by rw[m.out.1,h.out];rfl,m.out.2.2.2.drewN _⟩
   .by_cases A:y<x
    .have h:=C.out
     rw[Yaj q,Yao A]at h;replace h:=Af h;clear C;go_wp2;go_quiet (fail);go_wp2;go_quiet (fail);go_wp2;go_ret;exact⟨by rw[m.out.1,h.out];rfl,(m.out.2.2.2.drewN _).drewN _⟩
    .have h:=C.out
     rw[Yaj q,Yaj A]at h;replace h:=Af h;clear C;go_wp2;go_quiet (fail);go_wp2;go_quiet (fail);go_wp2;exact⟨⟨k+1,O,by simp,by rw[m.out.1,h.out],m.out.2.1,m.out.2.2.1,m.out.2.2.2.drewN _⟩,by simp[intOf];omega⟩
  .obtain rfl:k=8:=by omega
   have E:decide (((8:Nat):Int)<8)=false:=by simp
   go_wp2;go_ret;exact⟨by rw[m.out.1];rfl,m.out.2.2.2⟩
theorem A6Y(w:World):Calls prog 129 #[] w (Ot [] w):=by
 go_enter func129,ntmps129;go_wp2;go_ret;exact⟨_,_,rfl,OwnRows.blk (R:=[]) (Yai _) (Blk.new _ _ _) rfl ZbR,(Ext.refl _).alloc _⟩
theorem A7X:(rl [BV 255]).toArray=#[.int .i64 1,.int .i64 1,.int .i64 1,.int .i64 1,.int .i64 1,.int .i64 1,.int .i64 1,.int .i64 1]:=rfl
theorem QE(w:World):Calls prog 130 #[] w (Ot [BV 255] w):=by
 go_enter func130,ntmps130;go_wp2;go_ret;exact⟨_,_,rfl,OwnRows.blk (R:=[BV 255]) (Yai _) (by rw[A7X];exact Blk.new _ _ _) rfl ZbR,(Ext.refl _).alloc _⟩
theorem A46(i:Nat)(n:Int)(w:World)(J:i<8) :
  Calls prog 231 #[.int .i64 i,.int .i64 n] w λe N=>e=.returned (.agg #[.int .i64 (Lu i n 0),.int .i64 (Lu i n 1),.int .i64 (Lu i n 2),.int .i64 (Lu i n 3),.int .i64 (Lu i n 4),.int .i64 (Lu i n 5),.int .i64 (Lu i n 6),.int .i64 (Lu i n 7)])/\Ext w N:=by
 rcases lt8 J with rfl | rfl | rfl | rfl | rfl | rfl | rfl | rfl
 all_goals
  go_enter func231,ntmps231;go_wp2;refine bodyPost_ret (v:=.agg (c8 (Lu _ n))) ?_ rfl ⟨rfl,?_⟩
  .simp [results,Tryz.results231,go_sem,Lu,c8]
  .exact ((Ext.refl _).alloc _).alloc _
theorem A3o(k:Nat):Lu k (-1)=Eb k:=rfl
theorem Ou(w:World):Calls prog 131 #[] w (Ot revRows w):=by
 go_enter func131,ntmps131;go_wp2_with fail;refine(QE _).mono ?_;rintro e E ⟨o,W,rfl,t,Q⟩;replace t:=Af t;replace Q:=Af Q;go_wp2;go_loopw [1,2] (λv i wr=>∃(k:Nat) (R:List (Nat->Int)) (A:Option Addr) (c:Nat),k<=7/\i=.int .i64 k/\v=.slice A R.length c/\Hid (R++Gs k=revRows/\OwnRows 36 w.heap.size wr (.slice A R.length c) R/\Ext w wr)) (λ_ i _=>(intOf i).toNat)
 case atStart=>exact⟨7,[BV 255],_,_,by omega,rfl,rfl,rfl,t.out,Q.out⟩
 case round=>
  obtain⟨k,R,A,c,B,rfl,rfl,m⟩:=hrel;clear t Q
  match k,B,m with
  |0,B,m=>
   have e:R=revRows:=by have:=m.out.1;rwa [Gs,YbD]at this
   subst e;go_wp2;go_ret;exact⟨A,c,rfl,m.out.2.1,m.out.2.2⟩
  |k+1,B,m=>
   have C:Hid (R++[Eb (k+1)]++Gs k=revRows):=by have:=m.out.1;rw[Gs]at this;rw[<-this];show _++_++_=_;rw[Yaf];rfl
   have I:R.length<=8:=by have:=congrArg List.length m.out.1;rw[IP,Yac,IN]at this;omega
   have J:decide (0<k+1)=true:=by simp
   have K:((k+1:Nat):Int)-1=k:=by omega
   obtain⟨n,g⟩:∃n,n=k+1:=⟨_,rfl⟩;have M:n<8:=by omega
   have L:0<n:=by omega
   rw[<-g]at C J K ⊢;replace g:=Af g;replace K:=Af K;go_wp2_with fail;refine(A46 n (-1) _ M).mono ?_;rintro e F ⟨rfl,T⟩;rw[A3o]at *
   obtain⟨O,l,N,G,P,q⟩:=Ol (base:=w.heap.size) (w:=F.alloc (.cells #[.int .i64 (Eb n 0),.int .i64 (Eb n 1),.int .i64 (Eb n 2),.int .i64 (Eb n 3),.int .i64 (Eb n 4),.int .i64 (Eb n 5),.int .i64 (Eb n 6),.int .i64 (Eb n 7)] 36)) (S:=[Eb n]) (x:=.slice (some ⟨F.heap.size,0,none⟩) 1 1)
    ((m.out.2.1.ext T).ext ((Ext.refl _).alloc _)) (OwnRows.blk (R:=[Eb n]) (c:=1) (base:=0) (g:=F.heap.size) (Yay _) (Blk.new _ _ _) rfl ZbR).rows ZbR ZiI (by have:=m.out.2.2.size;have:=T.size;simp;omega)
   have s:Hid (Ext w N):=((m.out.2.2.trans T).alloc _).grown' q m.out.2.1.base_le;replace G:=Af G;replace P:=Af P;clear q;go_wp2_with (at_builtin;go_loud (refine GV rfl _ _ _ rfl _ _ rfl rfl G.out ?_));exact⟨⟨k,R++[Eb n],O,l,by omega,by rw[K.out],by simp,C.out,by simpa using P.out,s.out⟩,by have:=g.out;simp[intOf];omega⟩
def OwnV(base:Nat)(v:Value)(w:World)(R:List (Nat->Int)):Prop:=∃A c,v=.slice A R.length c/\OwnRows 36 base w (.slice A R.length c) R
theorem OwnV.ext{base:Nat}{v:Value}{R:List (Nat->Int)}(h:OwnV base v w R)(b:Ext w p):OwnV base v p R:=by
 obtain⟨A,c,q,B⟩:=h;exact⟨A,c,q,B.ext b⟩
theorem Blk.skip8{t:TypeId}{a:Nat->Int}(h:Blk w n t (Go.Proofs.YtcikkglcoeedlaaGreat.c8 (TN a b)))(B:a b=0):Blk w n t (Go.Proofs.YtcikkglcoeedlaaGreat.c8 (TN a (b+1))):=by
 rw[Oh (b:=TN a b) λi _=>?_]
 .exact h
 .by_cases q:i<b
  .rw [Kw q,Kw ZbC]
  .rw [QT q]
   by_cases A:i=b
   .rw [A,Kw ZbC,B]
   .rw [QT ZbC]
theorem PM(m:Nat)(w:World)(F:m<256):Calls prog 132 #[.int .u8 m] w (Ot (BV m::revRows) w):=by
 go_enter func132,ntmps132;go_wp2;go_loopw [4] (λi wr=>∃k:Nat,k<=8/\i=.int .i64 k/\Hid (Blk wr w.heap.size 36 (c8 (TN (BV m) k))/\Ext w wr)) (λi _=>8-(intOf i).toNat)
 case atStart=>exact⟨0,by omega,rfl,Blk.new _ _ _,(Ext.refl _).alloc _⟩
 case round=>
  obtain⟨k,B,rfl,L⟩:=hrel;by_cases O:k<8
  .have xc:decide ((k:Int)<8)=true:=ZiI
   go_wp2_with fail;refine(Abf m k _ F O).mono ?_;rintro e _ ⟨rfl,rfl⟩;have xd:=Af (A0F (m:=m) (i:=k))
   cases E:m.testBit k with
   |true=>
    have q:Hid (BV m k=1):=by rw[xd.out,E];rfl
    have f:=L.out.1.at8 O;have U:=L.out.1.frozen k;replace E:=Af E;clear xd;go_wp2;exact⟨⟨k+1,O,by simp,L.out.1.up8 O q.out.symm,L.out.2.set (p:=⟨w.heap.size,k,none⟩) (Yai _) _⟩,by simp[intOf];omega⟩
   |false=>
    have q:Hid (BV m k=0):=by rw[xd.out,E];rfl
    replace E:=Af E;clear xd;go_wp2;exact⟨⟨k+1,O,by simp,L.out.1.skip8 q.out,L.out.2⟩,by simp[intOf];omega⟩
  .obtain rfl:k=8:=by omega
   have d:=Af L.out.1.full8;have s:=Af L.out.2;clear L;have xc:decide (((8:Nat):Int)<8)=false:=by simp
   go_upto_region 7 with(fail)
   obtain⟨r,y⟩:∃r,r=w.heap.size:=⟨_,rfl⟩;rw[<-y]at d ⊢;replace y:=Af y
   refine wp_region_v ZbG [[], [(15, 0)], []] [[], [0], []]
    [λv _=>v=.agg #[.int .i64 (BV m 0),.int .i64 (BV m 1),.int .i64 (BV m 2),.int .i64 (BV m 3),.int .i64 (BV m 4),.int .i64 (BV m 5),.int .i64 (BV m 6),.int .i64 (BV m 7)],λv N=>OwnV w.heap.size v N [BV m],λv N=>OwnV w.heap.size v N revRows]
    rfl ZbG ZbG ?stab ?steps ?fin
   case stab=>exact .cons (Stab.eq _) (.cons (λ_ _ _ b h=>h.ext b) (.cons (λ_ _ _ b h=>h.ext b) .nil))
   case steps=>
    refine .cons ?s0 (.cons ?s1 (.cons ?s2 .nil))
    case s0=>
     intro N C Z B t G p;have H:C (.tmp 3)=.pointer (some ⟨r,0,none⟩):=t 3 ZbH;have I:N.cell? ⟨r,0,none⟩=some (.int .i64 (BV m 0)):=Z.cellv (d.out.cell 0);have K:N.cell? ⟨r,1,none⟩=some (.int .i64 (BV m 1)):=Z.cellv (d.out.cell 1);have Q:N.cell? ⟨r,2,none⟩=some (.int .i64 (BV m 2)):=Z.cellv (d.out.cell 2);have a:N.cell? ⟨r,3,none⟩=some (.int .i64 (BV m 3)):=Z.cellv (d.out.cell 3);have g:N.cell? ⟨r,4,none⟩=some (.int .i64 (BV m 4)):=Z.cellv (d.out.cell 4);have u:N.cell? ⟨r,5,none⟩=some (.int .i64 (BV m 5)):=Z.cellv (d.out.cell 5);have T:N.cell? ⟨r,6,none⟩=some (.int .i64 (BV m 6)):=Z.cellv (d.out.cell 6);have c7:N.cell? ⟨r,7,none⟩=some (.int .i64 (BV m 7)):=Z.cellv (d.out.cell 7);exact AD (by simp[execOp,H,I,K,Q,a,g,u,T,c7,go_sem]) rfl
    case s1=>
     intro N C Z B t G p;have xa:C (.tmp 15)=.agg #[.int .i64 (BV m 0),.int .i64 (BV m 1),.int .i64 (BV m 2),.int .i64 (BV m 3),.int .i64 (BV m 4),.int .i64 (BV m 5),.int .i64 (BV m 6),.int .i64 (BV m 7)]:=B.1 _ rfl;exact Yu (by simp[execOp,xa,go_sem]) ((Ext.refl _).alloc _) ⟨_,_,rfl,OwnRows.blk (w:=N.alloc (.cells #[.int .i64 (BV m 0),.int .i64 (BV m 1),.int .i64 (BV m 2),.int .i64 (BV m 3),.int .i64 (BV m 4),.int .i64 (BV m 5),.int .i64 (BV m 6),.int .i64 (BV m 7)] 36)) (R:=[BV m]) (Yau s.out.size Z.size) (Blk.new _ _ _) rfl ZbR⟩
    case s2=>
     intro N C Z B t G p;refine CF (by simp[execOp,resolve,invoke,p,go_sem]) (Ou _) ?_;rintro e J ⟨A,c,rfl,P,X⟩;exact⟨_,rfl,X,⟨A,c,rfl,P.base_mono (Yau s.out.size Z.size)⟩⟩
   case fin=>
    intro gf N Z hF;have z:=hF 1 _ rfl;have f2:=hF 2 _ rfl;obtain⟨j,K,W,xb⟩:=z;obtain⟨n,Q,o,xf⟩:=f2;simp only[Yat,Ybg,Nat.reduceAdd,Ybn,YaW,Ybl,Ycf,FH,Act.put,Ybe,YbB,YbS,W,o];replace Z:=(Ext.refl wr).drew.trans Z;have M:=Z.size;have xg:=s.out.size;obtain⟨V,l,S,Y,xe,R⟩:=Ol (base:=w.heap.size) (w:=N) (v:=.slice j 1 K) (R:=[BV m]) (S:=revRows) (x:=.slice n revRows.length Q) xb xf.rows (by rw[IP];omega) (by rw[IP];simp) ZbC;have x:Hid (Ext w S):=(s.out.trans Z).grown' R xb.base_le;replace Y:=Af Y;replace xe:=Af xe;replace xb:=Af xb;replace xf:=Af xf;replace Z:=Af Z;clear R hF W o;go_wp2_with (at_builtin;go_loud (refine GV rfl _ _ _ rfl _ _ rfl rfl Y.out ?_));go_ret;refine⟨V,l,?_,?_,x.out⟩
    .rw [Yat,Yde];rfl
    .have:=xe.out;rw[Yat,Yde];exact this
