/- Part 9 of the proof of hilbertMatchesReference_holds. No condition. -/
import Derived.Great.BuildSlice
import Derived.Test.YtialdhnijjnpaaaGreatQg2
import Derived.Test.YtialdhnijjnpaaaGreatQg8
set_option linter.unusedSimpArgs false
set_option linter.unusedVariables false
set_option maxRecDepth 100000
set_option maxHeartbeats 1600000
namespace Go.Proofs.YtialdhnijjnpaaaGreat
open Go.RowKit
def RatV(w:World)(v:Value)(q:Rat):Prop:=∃(b b':Bool) (A A':Option Addr) (m c m' c':Nat),v = .agg #[.bool b,.slice A m c,.bool b',.slice A' m' c']/\IsRat w (.bool b) (.slice A m c) (.bool b') (.slice A' m' c') q
theorem RatV.ext{w w':World}{v:Value}{q:Rat}(h:RatV w v q)(he:Ext w w'):RatV w' v q:=by
 obtain ⟨b,b',A,A',m,c,m',c',h1,h2⟩:=h
 exact ⟨b,b',A,A',m,c,m',c',h1,h2.ext he⟩
def tmc(b b':Bool)(A A':Option Addr)(n c n' c':Nat)(a:Nat->Int):Array Value:=#[.bool b,.slice A n c,.bool b',.slice A' n' c',.int .i64 (a 0),.int .i64 (a 1),.int .i64 (a 2),.int .i64 (a 3),.int .i64 (a 4),.int .i64 (a 5),.int .i64 (a 6),.int .i64 (a 7)]
def TmV(w:World)(cs:Array Value)(t:Tm):Prop:=∃(b b':Bool) (A A':Option Addr) (n c n' c':Nat),cs=tmc b b' A A' n c n' c' t.m/\IsRat w (.bool b) (.slice A n c) (.bool b') (.slice A' n' c') t.c
theorem TmV.ext{w w':World}{cs:Array Value}{t:Tm}(h:TmV w cs t)(he:Ext w w'):TmV w' cs t:=by
 obtain ⟨b,b',A,A',m,c,m',c',h1,h2⟩:=h
 exact ⟨b,b',A,A',m,c,m',c',h1,h2.ext he⟩
theorem TmV.size{w:World}{cs:Array Value}{t:Tm}(h:TmV w cs t):cs.size=12:=by
 obtain ⟨b,b',A,A',m,c,m',c',rfl,_⟩:=h
 rfl
theorem TmV.one{w:World}{cs:Array Value}{t:Tm}(h:TmV w cs t):∀u∈cs.toList,u.oneCell'=true:=by
 obtain ⟨b,b',A,A',m,c,m',c',rfl,_⟩:=h
 intro u hu
 simp [tmc] at hu
 rcases hu with rfl | rfl | rfl | rfl | rfl | rfl | rfl | rfl | rfl | rfl | rfl | rfl<;>rfl
def tAt(P:List Tm)(k:Nat):Tm:=P.getD k default
theorem A14{P:List Tm}{k:Nat}(h:k<P.length):tAt P k∈P:=by
 unfold tAt
 rw [List.getD_eq_getElem?_getD,List.getElem?_eq_getElem h]
 exact List.getElem_mem h
def PSz(P:List Tm)(N:Nat):Prop:=∀t∈P,RSz t.c N
theorem PSz.mono{P:List Tm}{N M:Nat}(h:PSz P N)(hm:N<=M):PSz P M:=λt ht=>(h t ht).mono hm
def PIn(P:List Tm)(lo hi:Int):Prop:=∀t∈P,In8 t.m lo hi
theorem PIn.mono{P:List Tm}{a b c d:Int}(h:PIn P a b)(h1:c<=a)(h2:b<=d):PIn P c d:=λt ht=>(h t ht).mono h1 h2
theorem ZT{x y:Nat}(h:As x=As y):x=y:=by rw [<-Aw x,<-Aw y,h]
theorem NP(b b':Bool)(A A':Option Addr)(n c n' c':Nat)(x y:Int)(w:World)(h:IsInt w (.bool b) (.slice A n c) x)(h':IsInt w (.bool b') (.slice A' n' c') y) :
  Calls Tryz.prog 83 #[.agg #[.bool b,.slice A n c],.agg #[.bool b',.slice A' n' c']] w λe w'=>e = .returned (.bool (decide (x=y)))/\Ext w w':=by
 have hb2:Hid (Blk ((w.alloc (.cells #[.bool b,.slice A n c] 69)).alloc (.cells #[.bool b',.slice A' n' c'] 69)) w.heap.size 69 #[.bool b,.slice A n c]):=(Blk.new _ _ _).alloc _
 have hb3:Hid (Blk ((w.alloc (.cells #[.bool b,.slice A n c] 69)).alloc (.cells #[.bool b',.slice A' n' c'] 69)) (w.heap.size+1) 69 #[.bool b',.slice A' n' c']):=CU _ _ (by simp)
 have hE:Hid (Ext w ((w.alloc (.cells #[.bool b,.slice A n c] 69)).alloc (.cells #[.bool b',.slice A' n' c'] 69))):=((Ext.refl _).alloc _).alloc _
 obtain ⟨B,d,hv1,hc1,hm1,hx⟩:=h.2.open_
 obtain ⟨B',d',hv2,hc2,hm2,hy⟩:=h'.2.open_
 injection hv1 with e1 e2 e3
 subst e1;subst e3
 injection hv2 with e4 e5 e6
 subst e4;subst e6
 have hb:b=decide (x<0):=by have:=h.1;injection this
 have hb':b'=decide (y<0):=by have:=h'.1;injection this
 replace hx:=Ae hx
 replace hy:=Ae hy
 replace e2:=Ae e2
 replace e5:=Ae e5
 have hnb:n<=9223372036854775807:=by have:=e2.out;omega
 clear h h' hc1 hc2
 by_cases hbb:b=b'
 .by_cases hnn:n=n'
  .subst hbb;subst hnn
   have hsg:Hid (x.natAbs=y.natAbs->x=y):=Ae λh=>by
    rw [hb] at hb'
    by_cases h1:x<0<;>by_cases h2:y<0<;>simp [h1,h2] at hb'<;>omega
   clear hb hb'
   go_enter Tryz.func83,Tryz.ntmps83
   go_wp2
   generalize ((w.alloc (.cells #[.bool b,.slice A n c] 69)).alloc (.cells #[.bool b,.slice A' n c'] 69))=wa at *
   generalize w.heap.size=B2 at *
   go_loopw [5] (λi wr=>∃k:Nat,k<=n/\i = .int .i64 k/\Hid (Ext wa wr/\∀i,i<k->(As x.natAbs).getD i 0=(As y.natAbs).getD i 0)) (λi _=>n-(intOf i).toNat)
   case atStart=>exact ⟨0,by omega,rfl,Ext.refl _,λi hi=>absurd hi (Nat.not_lt_zero _)⟩
   case round=>
    obtain ⟨k,hk,rfl,hI⟩:=hrel
    have q1:wr.cell? ⟨B2,1,none⟩=some (.slice A n c):=hI.out.1.cellv (hb2.out.cell 1)
    have q2:wr.cell? ⟨B2+1,1,none⟩=some (.slice A' n c'):=hI.out.1.cellv (hb3.out.cell 1)
    by_cases hlt:k<n
    .have hd:decide (k<n)=true:=by simpa using hlt
     obtain ⟨gx,ox,rfl,hgx,hcx⟩:=hx.out (by rw [<-e2.out];omega)
     obtain ⟨gy,oy,rfl,hgy,hcy⟩:=hy.out (by rw [<-e5.out];omega)
     replace hcx:wr.cell? ⟨gx,ox+k,none⟩=some (.int .u32 ((As x.natAbs).getD k 0:Nat)):=(hE.out.trans hI.out.1).cellv (hcx k (by rw [<-e2.out];omega))
     replace hcy:wr.cell? ⟨gy,oy+k,none⟩=some (.int .u32 ((As y.natAbs).getD k 0:Nat)):=(hE.out.trans hI.out.1).cellv (hcy k (by rw [<-e5.out];omega))
     generalize hX:(As x.natAbs).getD k 0=X at *
     generalize hY:(As y.natAbs).getD k 0=Y at *
     replace hX:=Ae hX
     replace hY:=Ae hY
     by_cases hXY:X=Y
     .subst hXY
      have hwr:IntKind.i64.wrap ((k:Int)+1)=(k:Int)+1:=IntWalk.i64_in _ (by omega)
      go_wp2
      go_quiet (fail)
      go_wp2
      refine ⟨⟨k+1,hlt,by simp,hI.out.1.drewN _,λi hi=>?_⟩,by simp [intOf];omega⟩
      by_cases e:i=k
      .rw [e,hX.out,hY.out]
      .exact hI.out.2 i (by omega)
     .have hne:¬x=y:=λe=>hXY (by rw [<-hX.out, <-hY.out, e])
      have hXi:¬((X:Int)=Y):=by omega
      replace hXY:=Ae hXY
      go_wp2
      go_quiet (fail)
      go_wp2
      go_ret
      exact ⟨by simp [hne],hE.out.trans (hI.out.1.drewN _)⟩
    .obtain rfl:k=n:=by omega
     have hd:decide (k<k)=false:=by simp
     have hxy : x = y := hsg.out (ZT (List.ext_getElem (by rw [← e2.out, ← e5.out]) fun i h1 h2 => by
      have:=hI.out.2 i (by rw [e2.out];exact h1)
      simpa [List.getD_eq_getElem?_getD,List.getElem?_eq_getElem h1,List.getElem?_eq_getElem h2] using this))
     replace hxy:=Ae hxy
     go_wp2
     go_ret
     exact ⟨by simp [hxy.out],hE.out.trans hI.out.1⟩
  .subst hbb
   have hne:¬x=y:=λe=>hnn (by rw [e2.out,e5.out,e])
   have hnni:¬((n:Int)=n'):=by omega
   replace hnn:=Ae hnn
   replace hne:=Ae hne
   clear hb hb'
   go_enter Tryz.func83,Tryz.ntmps83
   go_wp2
   go_ret
   exact ⟨by simp [hne.out],hE.out⟩
 .have hne:¬x=y:=λe=>hbb (by rw [hb, hb', e])
  replace hne:=Ae hne
  clear hb hb'
  cases b<;>cases b'
  .exact absurd rfl hbb
  .go_enter Tryz.func83,Tryz.ntmps83
   go_wp2
   go_ret
   exact ⟨by simp [hne.out],hE.out⟩
  .go_enter Tryz.func83,Tryz.ntmps83
   go_wp2
   go_ret
   exact ⟨by simp [hne.out],hE.out⟩
  .exact absurd rfl hbb
theorem Tz(bx bx':Bool)(Ax Ax':Option Addr)(nx cx nx' cx':Nat)(bz bz':Bool)(Ay Ay':Option Addr)(ny cy ny' cy':Nat)(p q:Rat)(w:World)(h:IsRat w (.bool bx) (.slice Ax nx cx) (.bool bx') (.slice Ax' nx' cx') p)(h':IsRat w (.bool bz) (.slice Ay ny cy) (.bool bz') (.slice Ay' ny' cy') q) :
  Calls Tryz.prog 41 #[.agg #[.bool bx,.slice Ax nx cx,.bool bx',.slice Ax' nx' cx'],.agg #[.bool bz,.slice Ay ny cy,.bool bz',.slice Ay' ny' cy']] w λe w'=>e = .returned (.bool (decide (p=q)))/\Ext w w':=by
 have hb2:Hid (Blk ((w.alloc (.cells #[.bool bx,.slice Ax nx cx,.bool bx',.slice Ax' nx' cx'] 71)).alloc (.cells #[.bool bz,.slice Ay ny cy,.bool bz',.slice Ay' ny' cy'] 71)) w.heap.size 71 #[.bool bx,.slice Ax nx cx,.bool bx',.slice Ax' nx' cx']):=(Blk.new _ _ _).alloc _
 have hb3:Hid (Blk ((w.alloc (.cells #[.bool bx,.slice Ax nx cx,.bool bx',.slice Ax' nx' cx'] 71)).alloc (.cells #[.bool bz,.slice Ay ny cy,.bool bz',.slice Ay' ny' cy'] 71)) (w.heap.size+1) 71 #[.bool bz,.slice Ay ny cy,.bool bz',.slice Ay' ny' cy']):=CU _ _ (by simp)
 have hE:Hid (Ext w ((w.alloc (.cells #[.bool bx,.slice Ax nx cx,.bool bx',.slice Ax' nx' cx'] 71)).alloc (.cells #[.bool bz,.slice Ay ny cy,.bool bz',.slice Ay' ny' cy'] 71))):=((Ext.refl _).alloc _).alloc _
 replace h:=Ae (h.ext hE.out)
 replace h':=Ae (h'.ext hE.out)
 go_enter Tryz.func41,Tryz.ntmps41
 go_wp2_with fail
 generalize ((w.alloc (.cells #[.bool bx,.slice Ax nx cx,.bool bx',.slice Ax' nx' cx'] 71)).alloc (.cells #[.bool bz,.slice Ay ny cy,.bool bz',.slice Ay' ny' cy'] 71))=wa at *
 generalize w.heap.size=B2 at *
 refine (NP _ _ _ _ _ _ _ _ p.num q.num _ h.out.1 h'.out.1).mono ?_
 rintro e w1 ⟨rfl,hE1⟩
 have q2:w1.cell? ⟨B2,2,none⟩=some (.bool bx'):=hE1.cellv (hb2.out.cell 2)
 have q3:w1.cell? ⟨B2,3,none⟩=some (.slice Ax' nx' cx'):=hE1.cellv (hb2.out.cell 3)
 have q4:w1.cell? ⟨B2+1,2,none⟩=some (.bool bz'):=hE1.cellv (hb3.out.cell 2)
 have q5:w1.cell? ⟨B2+1,3,none⟩=some (.slice Ay' ny' cy'):=hE1.cellv (hb3.out.cell 3)
 replace hE1:=Ae hE1
 by_cases hnum:p.num=q.num
 .have hd:decide (p.num=q.num)=true:=by simpa using hnum
  rw [hd]
  replace hnum:=Ae hnum
  clear hd
  go_wp2_with fail
  refine (NP _ _ _ _ _ _ _ _ (p.den:Int) (q.den:Int) _ (h.out.2.ext hE1.out) (h'.out.2.ext hE1.out)).mono ?_
  rintro e w2 ⟨rfl,hE2⟩
  have hr:decide ((p.den:Int)=q.den)=decide (p=q):=by
   by_cases hpq:p=q
   .subst hpq;simp
   .have:¬((p.den:Int)=q.den):=λe=>hpq (Rat.ext hnum.out (by omega))
    simp [this,hpq]
  obtain ⟨bb,hbb⟩:∃bb,decide (p=q)=bb:=⟨_,rfl⟩
  rw [hr,hbb]
  replace hbb:=Ae hbb
  replace hE2:=Ae hE2
  clear hr
  cases bb
  .go_wp2
   go_ret
   exact ⟨by rw [hbb.out];rfl,hE.out.trans (hE1.out.trans hE2.out)⟩
  .go_wp2
   go_ret
   exact ⟨by rw [hbb.out];rfl,hE.out.trans (hE1.out.trans hE2.out)⟩
 .have hd:decide (p.num=q.num)=false:=by simpa using hnum
  rw [hd]
  have hr:decide (p=q)=false:=by
   simp only [decide_eq_false_iff_not]
   exact λe=>hnum (by rw [e])
  replace hr:=Ae hr
  clear hd hnum
  go_wp2
  go_ret
  exact ⟨by rw [hr.out];rfl,hE.out.trans hE1.out⟩
def HV(a:Nat->Int)(k:Nat)(z:Int):Nat->Int:=λj=>if j=k then z else a j
def dT(i:Nat)(t:Tm):Option Tm:=if 0<t.m i then some ⟨(t.m i:Rat)*t.c,HV t.m i (t.m i-1)⟩ else none
end Go.Proofs.YtialdhnijjnpaaaGreat
