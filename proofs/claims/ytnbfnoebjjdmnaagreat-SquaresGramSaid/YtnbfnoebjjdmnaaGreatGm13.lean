/- Part 13 of the proof of squaresGram_holds. No condition. -/
import Derived.Test.YtnbfnoebjjdmnaaGreatGm11
import Derived.Test.YtnbfnoebjjdmnaaGreatGm12
set_option linter.unusedSimpArgs false
set_option linter.unusedVariables false
set_option maxRecDepth 100000
set_option maxHeartbeats 800000
namespace Go.Proofs.YtnbfnoebjjdmnaaGreat
open Go.RowKit
def Grew(w w':World):Prop:=Ext w w'/\w.drawn<=w'.drawn
theorem Grew.refl(w:World):Grew w w:=⟨Ext.refl w,Nat.le_refl _⟩
theorem Grew.alloc{a b:World}(h:Grew a b)(o:Obj):Grew a (b.alloc o):=⟨h.1.alloc o,h.2⟩
theorem Grew.drewN{a b:World}(h:Grew a b)(n:Nat):Grew a (b.drewN n):=⟨h.1.drewN n,Nat.le_trans h.2 (Nat.le_add_right _ _)⟩
theorem Grew.trans{a b c:World}(h:Grew a b)(k:Grew b c):Grew a c:=⟨h.1.trans k.1,Nat.le_trans h.2 k.2⟩
theorem Grew.size{a b:World}(h:Grew a b):a.heap.size<=b.heap.size:=h.1.size
theorem Grew.grow{a b:World}(h:Grew a b):∃q os,b=Sort.grow (a.drewN q) os:=by
 obtain ⟨⟨h1,h2,h3,h4,h5⟩,h6⟩:=h
 refine ⟨b.drawn-a.drawn,b.heap.extract a.heap.size b.heap.size,?_⟩
 have hh:b.heap=a.heap++b.heap.extract a.heap.size b.heap.size:=by
  refine Array.ext_getElem? λi=>?_
  rw [Array.getElem?_append]
  by_cases hi:i<a.heap.size
  .rw [if_pos hi];exact h5 i hi
  .rw [if_neg hi,Array.getElem?_extract]
   by_cases hj:i<b.heap.size
   .rw [if_pos (by omega)];congr 1;omega
   .rw [if_neg (by omega),Array.getElem?_eq_none (by omega)]
 cases a;cases b
 simp only [Sort.grow,World.drewN] at *
 subst h1;subst h2;subst h3
 rw [<-hh]
 congr 1
 omega
theorem VK(a b:Nat->Int)(w:World) :
  Calls Tryz.prog 110 #[.agg #[.int .i64 (a 0),.int .i64 (a 1),.int .i64 (a 2),.int .i64 (a 3),.int .i64 (a 4),.int .i64 (a 5),.int .i64 (a 6),.int .i64 (a 7)],.agg #[.int .i64 (b 0),.int .i64 (b 1),.int .i64 (b 2),.int .i64 (b 3),.int .i64 (b 4),.int .i64 (b 5),.int .i64 (b 6),.int .i64 (b 7)]] w λe w'=>e = .returned (.int .i64 (Fc a b))/\Grew w w':=by
 have hq:=λW=>EJ a b W
 cases he:Nj a b with
 | true=>
  rw [he] at hq
  go_enter Tryz.func110,Tryz.ntmps110
  go_wp2
  go_ret
  refine ⟨?_,((Grew.refl _).alloc _).alloc _⟩
  rw [Fc,Jv 8 0 λi _ h=>CB.1 he i (by omega)]
  rfl
 | false=>
  rw [he] at hq
  have hne:¬∀i,i<8->a i=b i:=λh=>by rw [CB.2 h] at he;cases he
  clear he
  replace hne:=Ac hne
  have hA:Hid (Blk ((w.alloc (.cells #[.int .i64 (a 0),.int .i64 (a 1),.int .i64 (a 2),.int .i64 (a 3),.int .i64 (a 4),.int .i64 (a 5),.int .i64 (a 6),.int .i64 (a 7)] 60)).alloc (.cells #[.int .i64 (b 0),.int .i64 (b 1),.int .i64 (b 2),.int .i64 (b 3),.int .i64 (b 4),.int .i64 (b 5),.int .i64 (b 6),.int .i64 (b 7)] 60)) w.heap.size 60 (c8 a)):=(Blk.new _ _ _).alloc _
  have hB:Hid (Blk ((w.alloc (.cells #[.int .i64 (a 0),.int .i64 (a 1),.int .i64 (a 2),.int .i64 (a 3),.int .i64 (a 4),.int .i64 (a 5),.int .i64 (a 6),.int .i64 (a 7)] 60)).alloc (.cells #[.int .i64 (b 0),.int .i64 (b 1),.int .i64 (b 2),.int .i64 (b 3),.int .i64 (b 4),.int .i64 (b 5),.int .i64 (b 6),.int .i64 (b 7)] 60)) (w.heap.size+1) 60 (c8 b)):=AW _ _ (by simp)
  have hE:Hid (Grew w ((w.alloc (.cells #[.int .i64 (a 0),.int .i64 (a 1),.int .i64 (a 2),.int .i64 (a 3),.int .i64 (a 4),.int .i64 (a 5),.int .i64 (a 6),.int .i64 (a 7)] 60)).alloc (.cells #[.int .i64 (b 0),.int .i64 (b 1),.int .i64 (b 2),.int .i64 (b 3),.int .i64 (b 4),.int .i64 (b 5),.int .i64 (b 6),.int .i64 (b 7)] 60))):=((Grew.refl _).alloc _).alloc _
  go_enter Tryz.func110,Tryz.ntmps110
  go_wp2
  generalize ((w.alloc (.cells #[.int .i64 (a 0),.int .i64 (a 1),.int .i64 (a 2),.int .i64 (a 3),.int .i64 (a 4),.int .i64 (a 5),.int .i64 (a 6),.int .i64 (a 7)] 60)).alloc (.cells #[.int .i64 (b 0),.int .i64 (b 1),.int .i64 (b 2),.int .i64 (b 3),.int .i64 (b 4),.int .i64 (b 5),.int .i64 (b 6),.int .i64 (b 7)] 60))=w1 at *
  go_loopw [5] (λi wr=>∃k:Nat,k<8/\i = .int .i64 k/\Hid ((¬∀i,k<=i->i<8->a i=b i)/\Fc a b=EK a b k (8-k)/\Blk wr w.heap.size 60 (c8 a)/\Blk wr (w.heap.size+1) 60 (c8 b)/\Grew w wr)) (λi _=>8-(intOf i).toNat)
  case atStart=>exact ⟨0,by omega,rfl,λh=>hne.out λi hi=>h i (by omega) hi,rfl,hA.out,hB.out,hE.out⟩
  case round=>
   obtain ⟨k,hk,rfl,hR⟩:=hrel
   have xa:=hR.out.2.2.1.at8 hk
   have xb:=hR.out.2.2.2.1.at8 hk
   have hs:Hid (EK a b k (8-k)=if a k=b k then EK a b (k+1) (8-(k+1)) else if a k<b k then -1 else 1):=by
    rw [show 8-k=8-(k+1)+1 by omega];rfl
   have hn:Hid (a k=b k->k+1<8/\¬∀i,k+1<=i->i<8->a i=b i):=λh=>by
    have h1:¬∀i,k+1<=i->i<8->a i=b i:=λh2=>hR.out.1 λi h3 h4=>by
     by_cases e:i=k
     .rw [e];exact h
     .exact h2 i (by omega) h4
    refine ⟨?_,h1⟩
    by_cases hk':k+1<8
    .exact hk'
    .exact absurd (λi h3 h4=>by omega) h1
   generalize a k=x at *
   generalize b k=y at *
   by_cases hxy:x=y
   .have hn':=hn.out hxy
    have hs':=hs.out
    rw [if_pos hxy] at hs'
    replace hs':=Ac (hR.out.2.1.trans hs')
    have hk1:=hn'.1
    replace hn':=Ac hn'.2
    go_wp2
    go_quiet (fail)
    go_wp2
    exact ⟨⟨k+1,hk1,by simp,hn'.out,hs'.out,hR.out.2.2.1,hR.out.2.2.2.1,hR.out.2.2.2.2.drewN _⟩,by simp [intOf];omega⟩
   .have hs':=hs.out
    rw [if_neg hxy] at hs'
    replace hs':=Ac (hR.out.2.1.trans hs')
    by_cases hlt:x<y
    .rw [if_pos hlt] at hs'
     go_wp2
     go_quiet (fail)
     go_wp2
     go_quiet (fail)
     go_wp2
     go_ret
     exact ⟨by rw [hs'.out];rfl,(hR.out.2.2.2.2.drewN _).drewN _⟩
    .rw [if_neg hlt] at hs'
     go_wp2
     go_quiet (fail)
     go_wp2
     go_quiet (fail)
     go_wp2
     go_ret
     exact ⟨by rw [hs'.out];rfl,(hR.out.2.2.2.2.drewN _).drewN _⟩
open Go.Sort
theorem KZ{α:Type}[Inhabited α](enc:α->List Value)(k:Nat)(w:World)(blk off m:Nat)(dk:Array α)(os:Array Obj){b:Nat}(hb:b<w.heap.size)(hne:b≠blk):(sortWorldK enc k w blk off m dk os).heap[b]? = w.heap[b]?:=by
 unfold sortWorldK
 rw [heap_grow_old _ _ (by rw [size_putRowK];exact hb)]
 unfold putRowK putRow mapBlock
 simp only [Array.getElem?_modify]
 rw [if_neg (show ¬blk=b from λh=>hne h.symm)]
 rfl
theorem KY{α:Type}[Inhabited α](enc:α->List Value)(k:Nat)(w:World)(blk off m:Nat)(dk:Array α)(os:Array Obj){cur:Array Value}{t:TypeId}{fz:Nat×Nat}(hb:w.heap[blk]? = some (.cells cur t fz)):(sortWorldK enc k w blk off m dk os).heap[blk]? = some (.cells (putCells id off (flatK enc k dk) cur) t fz):=by
 have hlt:blk<w.heap.size:=AU hb
 unfold sortWorldK
 rw [heap_grow_old _ _ (by rw [size_putRowK];exact hlt)]
 unfold putRowK putRow mapBlock
 simp only [Array.getElem?_modify,if_pos rfl]
 show Option.map _ (w.heap[blk]?)=_
 rw [hb]
 rfl
theorem GN(a b:Nat->Int):lx a b=Fc a b:=by simp [lx,FC,FY]
structure G12 where
 (b b':Bool) (A A':Option Addr) (n c n' c':Nat) (t:Tm)
instance:Inhabited G12:=⟨⟨false,false,none,none,0,0,0,0,default⟩⟩
def G12.cells(x:G12):Array Value:=tmc x.b x.b' x.A x.A' x.n x.c x.n' x.c' x.t.m
def IL(x:G12):List Value:=x.cells.toList
def cfG(x y:G12):Int:=lx y.t.m x.t.m
def G12.ok(w:World)(x:G12):Prop:=IsRat w (.bool x.b) (.slice x.A x.n x.c) (.bool x.b') (.slice x.A' x.n' x.c') x.t.c
theorem Pt(x y:G12)(W:World) :
  Calls Tryz.prog 109 #[.agg (IL x).toArray,.agg (IL y).toArray] W λe w'=>e = .returned (.int .i64 (cfG x y))/\∃q os',w'=grow (W.drewN q) os':=by
 obtain ⟨b,b',A,A',n,c,n',c',t⟩:=x
 obtain ⟨d,d',E,E',m,k,m',k',u⟩:=y
 show Calls Tryz.prog 109 #[.agg #[.bool b,.slice A n c,.bool b',.slice A' n' c',.int .i64 (t.m 0),.int .i64 (t.m 1),.int .i64 (t.m 2),.int .i64 (t.m 3),.int .i64 (t.m 4),.int .i64 (t.m 5),.int .i64 (t.m 6),.int .i64 (t.m 7)],.agg #[.bool d,.slice E m k,.bool d',.slice E' m' k',.int .i64 (u.m 0),.int .i64 (u.m 1),.int .i64 (u.m 2),.int .i64 (u.m 3),.int .i64 (u.m 4),.int .i64 (u.m 5),.int .i64 (u.m 6),.int .i64 (u.m 7)]] W λe w'=>e = .returned (.int .i64 (lx u.m t.m))/\∃q os',w'=grow (W.drewN q) os'
 have hE:Hid (Grew W ((W.alloc (.cells #[.bool b,.slice A n c,.bool b',.slice A' n' c',.int .i64 (t.m 0),.int .i64 (t.m 1),.int .i64 (t.m 2),.int .i64 (t.m 3),.int .i64 (t.m 4),.int .i64 (t.m 5),.int .i64 (t.m 6),.int .i64 (t.m 7)] 81)).alloc (.cells #[.bool d,.slice E m k,.bool d',.slice E' m' k',.int .i64 (u.m 0),.int .i64 (u.m 1),.int .i64 (u.m 2),.int .i64 (u.m 3),.int .i64 (u.m 4),.int .i64 (u.m 5),.int .i64 (u.m 6),.int .i64 (u.m 7)] 81))):=((Grew.refl _).alloc _).alloc _
 rw [GN]
 go_enter Tryz.func109,Tryz.ntmps109
 go_wp2_with fail
 refine (VK u.m t.m _).mono ?_
 rintro e w1 ⟨rfl,hE1⟩
 have hg:=Ac (hE.out.trans hE1).grow
 clear hE1
 go_wp2
 go_ret
 exact ⟨rfl,hg.out⟩
theorem XI:SWO (ltOf cfG) where
 irrefl x:=by simp [ltOf,cfG,Ux]
 trans x y z h1 h2:=by
  have h1:lx y.t.m x.t.m<0:=of_decide_eq_true h1
  have h2:lx z.t.m y.t.m<0:=of_decide_eq_true h2
  show decide (lx z.t.m x.t.m<0)=true
  rw [decide_eq_true_eq]
  have e1:=Md x.t.m y.t.m
  have e2:=Md y.t.m z.t.m
  have e3:=Md x.t.m z.t.m
  have:=HC (a:=x.t.m) (b:=y.t.m) (c:=z.t.m) (by omega) (by omega)
  omega
 ntrans x y z h1 h2:=by
  have h1:¬lx y.t.m x.t.m<0:=of_decide_eq_false h1
  have h2:¬lx z.t.m y.t.m<0:=of_decide_eq_false h2
  show decide (lx z.t.m x.t.m<0)=false
  rw [decide_eq_false_iff_not]
  have:=(LY (R:=[]) (a:=z.t.m) (b:=y.t.m) (c:=x.t.m) (by unfold lx at h2;omega) (by unfold lx at h1;omega)).1
  unfold lx
  omega
theorem WG(g c:Nat)(d:Array G12)(w:World)(hH:HoldsK IL 12 w g 0 d)(hgl:g<w.heap.size)(hn:d.size<4611686018427387904) :
  Calls Tryz.prog 108 #[.slice (some ⟨g,0,none⟩) d.size c,.func (.func 109) #[] #[]] w λe w'=>e = .returned (.tuple #[])/\∃d' m os,PermIn 0 d.size d d'/\SortedIn (ltOf cfG) 0 d.size d'/\w'=sortWorldK IL 12 w g 0 m d' os:=by
 have eg:∀args w,(callFunc 109 args).run Tryz.prog w = .ok (.enter 109 args) w:=enters_of Tryz.func109 (by kernel_rfl) rfl
 have hcmp:CmpLays Tryz.prog 109 #[] IL 12 cfG g 0 d.size w:=λm os dk hdk x y=>Pt x y _
 have hlim:Lib.bitLen d.size<4611686018427387904:=Nat.lt_of_le_of_lt (Lib.bitLen_le d.size 62 (by omega) (by omega)) (by omega)
 have h1:∀x:G12,∀v∈IL x,v.oneCell'=true:=λx v hv=>by
  simp [IL,G12.cells,tmc] at hv
  rcases hv with rfl | rfl | rfl | rfl | rfl | rfl | rfl | rfl | rfl | rfl | rfl | rfl<;>rfl
 have hp:=AnyQ.pdqsortCmpFunc_all Tryz.pdqTerm 12 Tryz.isAgg81 Tryz.sizeOf81 IL cfG 109 #[] XI g 0 c d w eg hcmp ⟨λ_=>rfl,h1,hH,hgl⟩ (d.size+1) 0 d.size (Lib.bitLen d.size) d w (by omega) rfl (SWK.start hH) (Nat.zero_le _) (Nat.le_refl _) hn hlim (Or.inl rfl)
 change Calls Tryz.prog 132 _ _ _ at hp
 have hl:Calls Tryz.prog 133 #[.int .u64 (d.size:Int)] w λe w'=>e = .returned (.int .i64 (Lib.bitLen d.size:Nat))/\w'=w:=by
  have h:=Tryz.bits_Len (d.size:Int) w (by omega) (by omega)
  rwa [Int.toNat_natCast] at h
 have wr:IntKind.u64.wrap (d.size:Int)=d.size:=by simp [IntKind.wrap,IntKind.bits,IntKind.signed];omega
 have hsort:=pdq_sorts (ltOf cfG) XI d 0 d.size (Lib.bitLen d.size) true true (Nat.zero_le _) (Nat.le_refl _) (Or.inl rfl)
 replace hsort:=Ac hsort
 replace hp:=Ac hp
 replace hl:=Ac hl
 clear hH hcmp h1 eg
 generalize hN:d.size=N at *
 replace hN:=Ac hN
 go_enter Tryz.func108,Tryz.ntmps108
 go_wp2_with fail
 refine hl.out.mono ?_
 rintro e w1 ⟨rfl,rfl⟩
 generalize Lib.bitLen N=bl at *
 go_wp2_with fail
 refine hp.out.mono ?_
 rintro e w2 ⟨rfl,m,os,rfl⟩
 go_wp2
 refine bodyPost_end (v:=.tuple #[]) (by simp [results,Tryz.results108,go_sem]) rfl ?_
 exact ⟨rfl,_,m,os,hsort.out.1,hsort.out.2,rfl⟩
end Go.Proofs.YtnbfnoebjjdmnaaGreat
namespace Go.Proofs.YtnbfnoebjjdmnaaGreat
open Go.RowKit Go.Sort
theorem QZ(x:G12){j:Nat}(h:j<12):(IL x)[j]! = x.cells[j]!:=by
 unfold IL
 rw [getElem!_pos _ j (by simpa [G12.cells,tmc] using h),getElem!_pos _ j (by simpa [G12.cells,tmc] using h),Array.getElem_toList]
theorem Od(x:G12){j:Nat}(h:j<12):x.cells[j]? = some x.cells[j]!:=by
 rw [getElem!_pos _ j (by simpa [G12.cells,tmc] using h),Array.getElem?_eq_getElem]
theorem A2Q{w:World}{x:G12}(h:x.ok w):TmV w x.cells x.t:=⟨x.b,x.b',x.A,x.A',x.n,x.c,x.n',x.c',rfl,h⟩
theorem RU{w w':World}{row:Option Nat}{x:G12}(h:x.ok w)(hg:w.grownBy w' row)(ht:∀b,row=some b->¬Ty w b 108):x.ok w':=IsRat.kept h hg ht
theorem A2c(n:Nat)(f:Nat->G12)(q:Nat)(hq:q<n*12):(((List.range n).map λi=>(f i).cells).flatMap Array.toList)[q]? = some ((f (q/12)).cells)[q%12]!:=by
 have hg:∀i,i<n->((List.range n).map λi=>(f i).cells).getD i #[]=(f i).cells:=λi hi=>by
  rw [List.getD_eq_getElem?_getD,List.getElem?_map,List.getElem?_range hi]
  rfl
 have:=Pg (cl:=(List.range n).map λi=>(f i).cells) (λi hi=>by
  have hi:i<n:=by simpa using hi
  rw [hg i hi];rfl) (q/12) (q%12) (by simp;omega) (by omega)
 rw [show q/12*12+q%12=q by omega,hg _ (by omega),Od _ (by omega)] at this
 exact this
theorem Mh{w:World}{g m:Nat}{d:Array G12}{os:Array Obj}:w.grownBy (sortWorldK IL 12 w g 0 m d os) (some g):=
 ⟨rfl,rfl,rfl,size_sortWorldK_c IL 12 w g 0 m d os,λk hk hne=>KZ IL 12 w g 0 m d os hk λe=>hne (by rw [e])⟩
def A1M(P:List Tm):Prop:=∀i j,i<j->j<P.length->0<=lx (AZ P i).m (AZ P j).m
theorem JM(n:Nat)(f:Nat->Tm){i:Nat}(h:i<n):AZ ((List.range n).map f) i=f i:=by
 unfold AZ
 rw [List.getD_eq_getElem?_getD,List.getElem?_map,List.getElem?_range h]
 rfl
theorem WH{base g c:Nat}{P:List Tm}{w:World}(h:OwnP base w (.slice (some ⟨g,0,none⟩) P.length c) P)(hn:P.length<=1000000) :
  Calls Tryz.prog 108 #[.slice (some ⟨g,0,none⟩) P.length c,.func (.func 109) #[] #[]] w λe w'=>e = .returned (.tuple #[])/\w.grownBy w' (some g)/\∃P',P'.Perm P/\A1M P'/\OwnP base w' (.slice (some ⟨g,0,none⟩) P.length c) P':=by
 have hu:=h.notU g rfl
 obtain ⟨cl,h1,⟨h2,h3⟩,h4⟩:=h
 rcases h3 with ⟨h5,_⟩ | ⟨g',cap,cur,h5,h6,hg,h7,h8,h9,h10⟩
 .cases h5
 cases h5
 have key:∀i,∃x:G12,i<P.length->cl.getD i #[]=x.cells/\x.ok w/\x.t=AZ P i:=λi=>by
  by_cases hi:i<P.length
  .obtain ⟨b,b',A,A',n,k,n',k',e1,e2⟩:=h4 i hi
   exact ⟨⟨b,b',A,A',n,k,n',k',AZ P i⟩,λ_=>⟨e1,e2,rfl⟩⟩
  .exact ⟨default,λh=>absurd h hi⟩
 obtain ⟨n,hN⟩:∃n,n=P.length:=⟨_,rfl⟩
 rw [<-hN] at h1 h2 h7 h10 hn key ⊢
 obtain ⟨f,hf⟩:∃f:Nat->G12,∀i,i<n->cl.getD i #[]=(f i).cells/\(f i).ok w/\(f i).t=AZ P i:=⟨λi=>(key i).choose,λi hi=>(key i).choose_spec hi⟩
 clear key
 obtain ⟨d,hd⟩:∃d:Array G12,d=(Array.range n).map f:=⟨_,rfl⟩
 have hds:d.size=n:=by rw [hd];simp
 have hdg:∀i,i<n->d[i]! = f i:=λi hi=>by rw [getElem!_pos _ i (by omega)];simp [hd]
 have hsz:∀i,i<cl.length->(cl.getD i #[]).size=12:=λi hi=>by rw [(hf i (by omega)).1];rfl
 have hH:HoldsK IL 12 w g 0 d:=by
  intro q hq
  rw [size_flatK,hds] at hq
  rw [get_flatK _ _ _ _ (by rw [hds];exact hq),hdg _ (by omega),QZ _ (by omega),Nat.zero_add]
  refine ⟨?_,(show Blk w g 81 cur from hg).frozen q⟩
  rw [BK hg]
  have e1:=Pg hsz (q/12) (q%12) (by omega) (by omega)
  rw [show q/12*12+q%12=q by omega,(hf (q/12) (by omega)).1,Od _ (by omega),<-h10,List.getElem?_take,if_pos (by omega)] at e1
  simpa using e1
 have hcon:=WG g c d w hH (AU hg) (by omega)
 rw [hds] at hcon
 refine hcon.mono ?_
 rintro e w' ⟨rfl,d',m,os,hp,hs,rfl⟩
 have hk:∀b,some g=some b->¬Ty w b 108:=λb e=>by cases e;exact hu
 have hds':d'.size=n:=hp.1.trans hds
 have e1:(d'.extract 0 n).toList=(List.range n).map λi=>d'[i]!:=by
  refine List.ext_getElem (by simp [hds']) λi q1 q2=>?_
  simp at q2
  simp [getElem!_pos d' i (by omega)]
 have e2:(d.extract 0 n).toList=(List.range n).map f:=by
  refine List.ext_getElem (by simp [hds]) λi q1 q2=>?_
  simp [hd]
 have hperm:=hp.2.2
 rw [e1,e2] at hperm
 have hok:∀i,i<n->(d'[i]!).ok w:=λi hi=>by
  have:d'[i]! ∈ (List.range n).map f:=hperm.mem_iff.1 (List.mem_map.2 ⟨i,by simpa using hi,rfl⟩)
  obtain ⟨j,hj,e⟩:=List.mem_map.1 this
  rw [<-e]
  exact (hf j (by simpa using hj)).2.1
 refine ⟨rfl,Mh,(List.range n).map λi=>(d'[i]!).t,?_,λi j hij hj=>?_,?_⟩
 .have h11:=hperm.map G12.t
  rw [List.map_map,List.map_map] at h11
  refine h11.trans ?_
  have:(List.range n).map (G12.t ∘ f)=P:=by
   refine List.ext_getElem (by simp [hN]) λi q1 q2=>?_
   simp only [List.getElem_map,List.getElem_range,Function.comp]
   rw [(hf i (by omega)).2.2]
   unfold AZ
   rw [List.getD_eq_getElem?_getD,List.getElem?_eq_getElem q2]
   rfl
  rw [this]
 .have hj:j<n:=by simpa using hj
  rw [JM n _ (by omega),JM n _ hj]
  have:=hs i j (Nat.zero_le _) hij hj
  have:¬lx (d'[i]!).t.m (d'[j]!).t.m<0:=of_decide_eq_false this
  omega
 .have hln:((List.range n).map λi=>(d'[i]!).t).length=n:=by simp
  refine ⟨(List.range n).map λi=>(d'[i]!).cells,by simp,?_,λi hi=>?_⟩
  .rw [hln]
   refine ⟨?_,.inr ⟨g,c,_,rfl,h6,KY IL 12 w g 0 m d' os hg,h7,h8,by simp [putCells,h9],?_⟩⟩
   .rw [Kf λi hi=>by
     have hi:i<n:=by simpa using hi
     rw [List.getD_eq_getElem?_getD,List.getElem?_map,List.getElem?_range hi];rfl]
    simp
   .apply List.ext_getElem?
    intro q
    by_cases hq:q<n*12
    .rw [A2c n _ q hq,List.getElem?_take,if_pos hq,Array.getElem?_toList]
     unfold putCells
     rw [Array.getElem?_mapIdx]
     have hcq:q<cur.size:=by rw [h9];exact Nat.lt_of_lt_of_le hq (Nat.mul_le_mul_right 12 h7)
     rw [Array.getElem?_eq_getElem hcq]
     simp only [Option.map_some,size_flatK,hds']
     rw [if_pos (by omega),Nat.sub_zero,get_flatK _ _ _ _ (by rw [hds'];exact hq),QZ _ (by omega)]
     rfl
    .rw [List.getElem?_eq_none,List.getElem?_eq_none]
     .rw [Kf λi hi=>by
       have hi:i<n:=by simpa using hi
       rw [List.getD_eq_getElem?_getD,List.getElem?_map,List.getElem?_range hi];rfl]
      simp;omega
     .simp;omega
  .have hi:i<n:=by simpa using hi
   rw [JM n _ hi]
   have:((List.range n).map λi=>(d'[i]!).cells).getD i #[]=(d'[i]!).cells:=by
    rw [List.getD_eq_getElem?_getD,List.getElem?_map,List.getElem?_range hi];rfl
   rw [this]
   exact A2Q (RU (hok i hi) Mh hk)
end Go.Proofs.YtnbfnoebjjdmnaaGreat
