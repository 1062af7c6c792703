/- Part 28. -/
import Derived.Test.YtmfhggnlainmiaaGreatDoorPk24
import Derived.Test.YtmfhggnlainmiaaGreatDoorPk26
set_option linter.unusedVariables false
namespace Go.Proofs.YtmfhggnlainmiaaGreatDoor
section
theorem zs4 (l:List Nat) (p:Nat) (most:Int):jj l p most=match jy l p most with | .error e=>(0,0,some ((e.1:Int),some (e.2:Int))) | .ok y=>(y.1,y.2,none):=by
 unfold jj jy
 cases zar l p with
 | some e=>rfl
 | none=>
  simp only;generalize yf (l.drop (p+5)) 0 0=s;obtain⟨a,x,j⟩:=s;rcases a with _ | _ | _ | a
  · rfl
  · simp only;split <;> rfl
  · rfl
  · rfl
theorem zo8 {l:List Nat} {L:zc}:∀{ks:List Kno} {es:List Nat} {p q:Nat},zbv l L ks es p q→ks.length=es.length
 | [],[],p,q,h=>rfl
 | k' :: ks,e :: es,p,q,h=>by rw[List.length_cons,List.length_cons,zo8 h.2]
 | [],_ :: _,_,_,h=>h.elim
 | _ :: _,[],_,_,h=>h.elim
theorem ydc {l:List Nat} {p i:Nat} {e:Nat×Nat} (h:za0 l p i=some e):(e=(5,p))∨(e=(if i=4 then 13 else 12,p+i)∧p+i<l.length):=by
 unfold za0 at h;split at h
 · injection h with h;exact .inl h.symm
 · split at h
   · cases h
   · injection h with h;exact .inr ⟨h.symm,by omega⟩
theorem zs5 {l:List Nat} {p:Nat} {most:Int} {e:Nat×Nat} (h:jy l p most=.error e):(e=(5,p))∨(e.1=6∧e.2=p+5)∨(e.1=7∧e.2=p+5)∨((e.1=12∨e.1=13)∧e.2<l.length):=by
 unfold jy at h
 cases hb:zar l p with
 | some x=>
  rw[hb] at h;injection h with h;subst h;unfold zar at hb;obtain⟨i,-,hi⟩:=List.exists_of_findSome?_eq_some hb;rcases ydc hi with rfl | ⟨rfl,h2⟩
  · exact .inl rfl
  · exact .inr (.inr (.inr ⟨by simp only;split <;> simp,h2⟩))
 | none=>
  rw[hb] at h;simp only at h;split at h
  · split at h
    · injection h with h;subst h;exact .inr (.inr (.inl ⟨rfl,rfl⟩))
    · cases h
  · injection h with h;subst h;exact .inr (.inl ⟨rfl,rfl⟩)
  · injection h with h;subst h;exact .inl rfl
theorem zs6 {l:List Nat} (hl:∀c∈l,c<256) {L:zc} {p q:Nat} {k:Kno} (h:qo l L p=.ok (k,q)):p+10≤q∧q≤l.length:=by
 unfold qo at h
 cases hh:jy l p L.1 with
 | error e=>rw[hh] at h;simp only at h;split at h <;> cases h
 | ok y=>
  obtain⟨s,n⟩:=y;rw[hh] at h;simp only at h;have:=zfd hl hh;split at h
  · split at h <;> cases h
  · split at h
    · cases h
    · split at h
      · injection h with h;injection h with h1 h2;omega
      · cases h
theorem zkd {l:List Nat} (hl:∀c∈l,c<256) {L:zc}:∀{ks:List Kno} {es:List Nat} {p q:Nat},zbv l L ks es p q→p+10*ks.length≤q∧(p≤l.length→q≤l.length)
 | [],[],p,q,h=>by have h:p=q:=h;subst h;exact⟨Nat.le_refl _,fun h=>h⟩
 | k :: ks,e :: es,p,q,h=>by
   have h1:=zs6 hl h.1;have h2:=zkd hl h.2;rw[List.length_cons]
   exact⟨by omega,fun _=>h2.2 h1.2⟩
 | [],_ :: _,_,_,h=>h.elim
 | _ :: _,[],_,_,h=>h.elim
end
section
open Go.RowKit
attribute [local go_sem] y9 Tryz.eqGuard_if
def zed (a:Option Addr) (l cap:Nat):Option Addr:=if cap=l then a else a.map fun x=>x.add l
theorem zo9 {w:World} {a:Option Addr} {n cap:Nat} {l:List Nat} (h:Byts w a n cap l) {s e:Nat} (h1:s≤e) (h2:e≤n):Byts w (zed a s cap) (e - s) (cap - s) ((l.drop s).take (e - s)):=by
 have hr:=h.room;unfold zed;by_cases hc:cap=s
 · rw[if_pos hc];subst hc;rw[show e - cap=0 by omega,List.take_zero];exact⟨rfl,by simp,by omega,by omega,fun _=>by omega,fun h=>absurd h (Nat.lt_irrefl 0)⟩
 · rw[if_neg hc];rcases a with _ | ⟨b,o,k⟩
   · have:=h.nilc rfl;omega
   · by_cases hn:0<n
     · obtain⟨b',o',e',-⟩:=h.cells hn;cases e';have:=h.sub s e h1 h2 (by omega);rw[Option.map_some,qg];exact this
     · obtain rfl:n=0:=by omega
       obtain rfl:e=0:=by omega
       obtain rfl:s=0:=by omega
       exact⟨by simp,by simp,by omega,by(have:=h.most;omega),(by intro h;cases h),fun h=>absurd h (Nat.lt_irrefl 0)⟩
end
section
open Go.RowKit
attribute [local go_sem] y9 Tryz.eqGuard_if
theorem ydd {w:World} (base:Nat) (v:Value) (n:Nat) (xs:List Nat) (hown:w.ownsRow base 3 1 v n (qi xs)) (A:Option Addr) (m c:Nat) (l:List Nat) (hr:Rd w 1 A m (qi l)) (hb:n+m≤900000000000) (hbase:base≤w.heap.size):
 ∃v' w',(Builtin.append_ #[79,79] 79 #[v,.slice A m c]).run Tryz.prog w=.ok v' w'∧w'.ownsRow base 3 1 v' (n+m) (qi (xs++l))∧w.grownBy w' v.ownBlock:=by
 rw[zla];exact zcf base _ _ _ _ 1 8 Tryz.underlying79 Tryz.info_int rfl (by omega) v n _ hown A m c _ hr (zwt l) (by unfold maxLen;omega) (by omega) hbase
theorem TwoM.push {w wr:World} {base:Nat} {o E K:Value} {ks:List Kno} {es:List Nat} {k:Kno} (h:TwoM w wr base o E ks es) (hK:KnoS wr K k) (q:Nat) (h1:ks.length≤900000000000) (h2:es.length+1≤900000000000):
 ∃o' w2,(Builtin.append_ #[26,26] 26 #[o,.slice (some ⟨wr.heap.size,0,none⟩) 1 1]).run Tryz.prog (wr.alloc (.cells #[K] 48))=.ok o' w2∧
 ∃E' w4,(Builtin.append_ #[79,79] 79 #[E,.slice (some ⟨w2.heap.size,0,none⟩) 1 1]).run Tryz.prog (w2.alloc (.cells #[.int .i64 (q:Nat)] 3))=.ok E' w4∧TwoM w w4 base o' E' (ks++[k]) (es++[q])∧
  ∀g T C,T≠48→T≠3→Row wr g T C→Row w4 g T C:=by
 have hal:=(Below.refl wr.heap.size wr).alloc (Nat.le_refl _) (.cells #[K] 48);obtain⟨o',w2,e1,hkn,Ks,ho,hg⟩:=zs1 h.kn hK h1 h.hi;have hen2:w2.ownsRow base 3 1 E es.length (qi es):=vh (zm h.en hal) fun j hj=>hg.block j ((zm h.en hal).lt j hj).2 fun e=>zeb (zm h.en hal) ho (by decide) j hj e.symm
 have hgr2:=zfw (vg h.gr hal) hg fun j hj=>Nat.le_trans h.lo (ho.lt j hj).1
 have hhi2:base≤w2.heap.size:=Nat.le_trans h.hi (Nat.le_trans hal.size hg.size);have hal2:=(Below.refl w2.heap.size w2).alloc (Nat.le_refl _) (.cells #[.int .i64 (q:Nat)] 3);have hen3:=zm hen2 hal2;obtain⟨E',w4,e3,e4,e5⟩:=ydd base E es.length es hen3 (some ⟨w2.heap.size,0,none⟩) 1 1 [q] (zf1 _ _ _ 1 _ rfl rfl) h2 (Nat.le_trans hhi2 hal2.size);have hkn3:=hkn.later hal2;refine⟨o',w2,e1,E',w4,e3,⟨h.lo,Nat.le_trans hhi2 (Nat.le_trans hal2.size e5.size),?_,by rw[List.length_append];exact e4,zfw (vg hgr2 hal2) e5 fun j hj=>Nat.le_trans h.lo (hen3.lt j hj).1⟩,fun g T C t1 t2 hr=>?_⟩
 · obtain⟨Ks3,k1,k2⟩:=hkn3;refine⟨Ks3,vh k1 fun j hj=>e5.block j (k1.lt j hj).2 fun e=>zeb k1 hen3 (by decide) j hj e.symm,k2.steady ?_⟩;exact(Steady.grown (base:=base) hen3 e5 (show ¬jw 3 by rintro(h | h | h) <;> cases h)).lower (Nat.zero_le _)
 · have r1:=hr.later hal;have r2:=r1.grown hg fun e=>r1.ne_own ho t1 _ e.symm rfl
   have r3:=r2.later hal2;exact r3.grown e5 fun e=>r3.ne_own hen3 t2 _ e.symm rfl
end
