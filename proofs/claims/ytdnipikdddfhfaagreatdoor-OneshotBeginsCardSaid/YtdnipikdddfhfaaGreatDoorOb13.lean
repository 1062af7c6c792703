/- Part 13. -/
import Derived.Test.YtdnipikdddfhfaaGreatDoorOb12
set_option linter.unusedVariables false
set_option maxHeartbeats 16000000
namespace Go.Proofs.YtdnipikdddfhfaaGreatDoor
open Lib (hid)
section
structure PFit (s:PS) (n:Nat):Prop where
 v:LtV s.v
 vl:s.v.length≤n
 rep:s.rep<18446744073709551616
 mx:s.mx<18446744073709551616
 lo:s.lo<18446744073709551616
 h:yg s.h
 hl:s.h.length≤n
 ents:s.ents<18446744073709551616
 hls:s.hls<18446744073709551616
theorem PFit.mono {s:PS} {n m:Nat} (h:PFit s n) (hm:n≤m):PFit s m:=⟨h.v,Nat.le_trans h.vl hm,h.rep,h.mx,h.lo,h.h,Nat.le_trans h.hl hm,h.ents,h.hls⟩
theorem zeb (n:Nat):PFit ps0 n:=⟨fun e h=>(by cases h),Nat.zero_le _,by decide,by decide,by decide,fun t h=>(by cases h),Nat.zero_le _,by decide,by decide⟩
theorem zjo {s:PS} {n k:Nat} {l:List Iv} (hs:PFit s n) (hk:k<18446744073709551616) (hl:yg l) (hn:l.length≤n+1):PFit (yo s k l) (n+1):=by
 have hv:LtV (s.v++[(s.rep,s.mx,l)]):=fun e he=>by
  rcases List.mem_append.1 he with h | h
  · exact hs.v e h
  · rw[List.mem_singleton] at h;subst h;exact⟨hs.rep,hs.mx,hl⟩
 have hvl:(s.v++[(s.rep,s.mx,l)]).length≤n+1:=by have:=hs.vl;simp;omega
 have he:=hs.ents;unfold yo;split
 · exact⟨hs.v,by have:=hs.vl;simp only;omega,hs.rep,hs.mx,hs.lo,hl,hn,hs.ents,by simp only;omega⟩
 · split
   · exact⟨hv,hvl,hs.rep,hs.mx,hs.lo,fun t h=>(by cases h),Nat.zero_le _,by simp only;omega,by simp⟩
   · exact⟨hv,hvl,hs.rep,hs.mx,hs.lo,fun t h=>(by cases h),Nat.zero_le _,by simp only;omega,by simp⟩
theorem zjp {o:Option Nat} {a x lo:Nat} (hx:x<18446744073709551616) (h:loP o a x=some lo):lo<18446744073709551616:=by
 cases o with
 | none=>cases h;exact hx
 | some q=>
  simp only[loP] at h;split at h
  · cases h;assumption
  · cases h
theorem zrc {v:Vec} {x r:Nat} (hx:x<18446744073709551616) (h:jk v x=some r):r<18446744073709551616:=by
 unfold jk at h;split at h
 · cases h;exact hx
 · split at h
   · cases h;assumption
   · cases h
theorem zf1 {le lh:Int} {s s':PS} {x rest n:Nat} (hs:PFit s n) (ht:s.tag<6) (hx:x<18446744073709551616) (h:zm le lh s x rest=.ok s'):PFit s' (n+1):=by
 have hm:=hs.mono (Nat.le_succ n);obtain⟨tag,v,rep,mx,hh,ents,hls,lo⟩:=s;simp only at ht;rcases(by omega:tag=0∨tag=1∨tag=2∨tag=3∨tag=4∨tag=5) with rfl | rfl | rfl | rfl | rfl | rfl <;> simp only[zm] at h
 · split at h
   · cases h
   · split at h
     · cases h
     · cases h;exact⟨fun e h=>(by cases h),Nat.zero_le _,hm.rep,hm.mx,hm.lo,hm.h,hm.hl,hx,hm.hls⟩
 · cases hr:jk v x with
   | none=>rw[hr] at h;cases h
   | some r=>rw[hr] at h;cases h;exact⟨hm.v,hm.vl,zrc hx hr,hm.mx,hm.lo,hm.h,hm.hl,hm.ents,hm.hls⟩
 · cases h;exact⟨hm.v,hm.vl,hm.rep,hx,hm.lo,hm.h,hm.hl,hm.ents,hm.hls⟩
 · split at h
   · cases h
   · cases h;exact zjo hs hx (fun t h=>(by cases h)) (Nat.zero_le _)
 · cases hr:loP (yk hh) 1 x with
   | none=>rw[hr] at h;cases h
   | some r=>rw[hr] at h;cases h;exact⟨hm.v,hm.vl,hm.rep,hm.mx,zjp hx hr,hm.h,hm.hl,hm.ents,hm.hls⟩
 · split at h
   · rename_i hc;cases h;refine zjo hs hs.hls (fun t ht=>?_) (by have:=hs.hl;simp only[List.length_append,List.length_cons,List.length_nil] at this ⊢;omega);rcases List.mem_append.1 ht with h | h
     · exact hs.h t h
     · rw[List.mem_singleton] at h;subst h;exact⟨hs.lo,hc.1⟩
   · cases h
structure WFit (s:WS) (n:Nat):Prop where
 vs:∀v∈s.vs,LtV v
 vsl:s.vs.length≤n
 l:yg s.l
 ll:s.l.length≤n
 li:s.ix.length=s.l.length
 ix:∀i∈s.ix,i<s.vs.length
 left:s.left<18446744073709551616
 lo:s.lo<18446744073709551616
 hi:s.hi<18446744073709551616
 frm:s.frm≤n
 inner:PFit s.inner n
theorem zrd:WFit ws0 0:=⟨fun v h=>(by cases h),Nat.le_refl _,fun t h=>(by cases h),Nat.le_refl _,rfl,fun i h=>(by cases h),by decide,by decide,by decide,Nat.le_refl _,zeb 0⟩
theorem WFit.mono {s:WS} {n m:Nat} (h:WFit s n) (hm:n≤m):WFit s m:=⟨h.vs,Nat.le_trans h.vsl hm,h.l,Nat.le_trans h.ll hm,h.li,h.ix,h.left,h.lo,h.hi,Nat.le_trans h.frm hm,h.inner.mono hm⟩
theorem zf2 {E:Nat} {L:za} {s s':WS} {x p q:Nat} (hs:WFit s p) (hI:WInv s) (h4:s.tag<4) (hx:x<18446744073709551616) (hq:p<q) (h:zr E L s x p q=.ok s'):WFit s' q:=by
 have hm:=hs.mono (Nat.le_of_lt hq)
 have fin:∀t:WS,WFit t q→∀t',qu E t q=.ok t'→WFit t' q:=fun t ht t' h=>by
  unfold qu at h;split at h
  · cases h
  · split at h
    · cases h
    · cases h;exact⟨ht.vs,ht.vsl,ht.l,ht.ll,ht.li,ht.ix,ht.left,ht.lo,ht.hi,ht.frm,ht.inner⟩
 have h2:=hI.turn;have hin:=hI.inner;obtain⟨tag,vs,l,ix,left,frm,inner,turn,lo,hi,tch⟩:=s;simp only at h2 hin h4
 have hfr:qd ⟨tag,vs,l,ix,left,frm,inner,turn,lo,hi,tch⟩ p≤q:=by
  unfold qd;have:=hs.frm;simp only at this ⊢;split <;> omega
 have g1:=hs.vsl;have g2:=hs.ll;have g3:=hs.left;simp only at g1 g2 g3;rcases(by omega:tag=0∨tag=1∨tag=2∨tag=3) with rfl | rfl | rfl | rfl <;> simp only[zr] at h
 · split at h
   · cases h
   · split at h
     · cases h;exact⟨hm.vs,hm.vsl,hm.l,hm.ll,hm.li,hm.ix,hm.left,hm.lo,hm.hi,hm.frm,hm.inner⟩
     · cases h;exact⟨hm.vs,hm.vsl,hm.l,hm.ll,hm.li,hm.ix,hx,hm.lo,hm.hi,hm.frm,zeb q⟩
 · obtain⟨i1,i2⟩:=hin rfl
   cases hp:zm L.2.2.1 L.2.2.2.1 inner x (E - q) with
   | error c=>rw[hp] at h;cases h
   | ok i=>
    rw[hp] at h;simp only at h;have hi':=(zf1 hs.inner i1 hx hp).mono hq
    have hvs:∀v∈vs++[i.v],LtV v:=fun v hv=>by
     rcases List.mem_append.1 hv with h | h
     · exact hs.vs v h
     · rw[List.mem_singleton] at h;subst h;exact hi'.v
    have hvl:(vs++[i.v]).length≤q:=by simp;omega
    have hix:∀j∈ix,j<(vs++[i.v]).length:=fun j hj=>by have:=hs.ix j hj;simp only[List.length_append] at this ⊢;omega
    split at h
    · split at h
      · cases h
      · split at h
        · cases h;exact⟨hvs,hvl,hm.l,hm.ll,hm.li,hix,by simp,hm.lo,hm.hi,hm.frm,zeb q⟩
        · cases h;exact⟨hvs,hvl,hm.l,hm.ll,hm.li,hix,by simp only;omega,hm.lo,hm.hi,hm.frm,zeb q⟩
    · cases h;exact⟨hm.vs,hm.vsl,hm.l,hm.ll,hm.li,hm.ix,hm.left,hm.lo,hm.hi,hfr,hi'⟩
 · split at h
   · cases h
   · split at h
     · exact fin _ hm _ h
     · cases h;exact⟨hm.vs,hm.vsl,hm.l,hm.ll,hm.li,hm.ix,hx,hm.lo,hm.hi,hm.frm,hm.inner⟩
 · rcases(by omega:turn=0∨turn=1∨turn=2) with rfl | rfl | rfl <;> simp only at h
   · cases hq':loP (yk l) 0 x with
     | none=>rw[hq'] at h;cases h
     | some r=>rw[hq'] at h;cases h;exact⟨hm.vs,hm.vsl,hm.l,hm.ll,hm.li,hm.ix,hm.left,zjp hx hq',hm.hi,hm.frm,hm.inner⟩
   · split at h
     · rename_i hc;cases h;exact⟨hm.vs,hm.vsl,hm.l,hm.ll,hm.li,hm.ix,hm.left,hm.lo,hc,hm.frm,hm.inner⟩
     · cases h
   · split at h
     · cases h
     · rename_i hx8
       have k1:yg (l++[(lo,hi)]):=fun t ht=>by
        rcases List.mem_append.1 ht with h | h
        · exact hs.l t h
        · rw[List.mem_singleton] at h;subst h;exact⟨hs.lo,hs.hi⟩
       have k2:(l++[(lo,hi)]).length≤q:=by simp;omega
       have k3:(ix++[x]).length=(l++[(lo,hi)]).length:=by have:=hs.li;simp only[List.length_append,List.length_cons,List.length_nil] at this ⊢;omega
       have k4:∀j∈ix++[x],j<vs.length:=fun j hj=>by
        rcases List.mem_append.1 hj with h | h
        · exact hs.ix j h
        · rw[List.mem_singleton] at h;subst h;omega
       split at h
       · cases h
       · split at h
         · exact fin ⟨3,vs,l++[(lo,hi)],ix++[x],0,frm,inner,0,lo,hi,tch⟩ ⟨hm.vs,hm.vsl,k1,k2,k3,k4,by simp,hm.lo,hm.hi,hm.frm,hm.inner⟩ _ h
         · cases h;exact⟨hm.vs,hm.vsl,k1,k2,k3,k4,by simp only;omega,hm.lo,hm.hi,hm.frm,hm.inner⟩
def za9 (s:WS):Prop:=1≤s.turn→s.tch=true→s.l≠[]
theorem zre:za9 ws0:=fun h=>by simp[ws0] at h
theorem zrf {l:List Iv} {z:Nat} (h:kq l z=true):l≠[]:=fun e=>by subst e;cases h
theorem zrg {E:Nat} {L:za} {s s':WS} {x p q:Nat} (hs:za9 s) (hI:WInv s) (h4:s.tag<4) (h:zr E L s x p q=.ok s'):za9 s':=by
 have fin:∀t:WS,za9 t→∀t',qu E t q=.ok t'→za9 t':=fun t ht t' h=>by
  unfold qu at h;split at h
  · cases h
  · split at h
    · cases h
    · cases h;exact ht
 have h2:=hI.turn;obtain⟨tag,vs,l,ix,left,frm,inner,turn,lo,hi,tch⟩:=s;simp only at h2 h4;rcases(by omega:tag=0∨tag=1∨tag=2∨tag=3) with rfl | rfl | rfl | rfl <;> simp only[zr] at h
 · split at h
   · cases h
   · split at h
     · cases h;exact hs
     · cases h;exact hs
 · split at h
   · cases h
   · split at h
     · split at h
       · cases h
       · split at h
         · cases h;exact hs
         · cases h;exact hs
     · cases h;exact hs
 · split at h
   · cases h
   · split at h
     · exact fin _ hs _ h
     · cases h;exact fun h=>by simp at h
 · rcases(by omega:turn=0∨turn=1∨turn=2) with rfl | rfl | rfl <;> simp only at h
   · split at h
     · cases h
     · cases h;exact fun _ h=>zrf h
   · split at h
     · cases h;exact fun _ h=>hs (by simp) h
     · cases h
   · split at h
     · cases h
     · split at h
       · cases h
       · split at h
         · exact fin ⟨3,vs,l++[(lo,hi)],ix++[x],0,frm,inner,0,lo,hi,tch⟩ (fun h=>by simp at h) _ h
         · cases h;exact fun h=>by simp at h
end
section
open Go.RowKit
attribute [local go_sem] qj
def lmV (L:za):Value:=.agg #[.int .i64 L.1,.int .i64 L.2.1,.int .i64 L.2.2.1,.int .i64 L.2.2.2.1,.int .i64 L.2.2.2.2]
def pkF (g:Nat):Nat→Value
 | 0=>.func (.func 189) #[.pointer (some ⟨g,0,none⟩)] #[]
 | 1=>.func (.func 231) #[.pointer (some ⟨g,0,none⟩)] #[]
 | 2=>.func (.func 260) #[.pointer (some ⟨g,0,none⟩)] #[]
 | 3=>.func (.func 273) #[.pointer (some ⟨g,0,none⟩)] #[]
 | 4=>.func (.func 299) #[.pointer (some ⟨g,0,none⟩)] #[]
 | 5=>.func (.func 303) #[.pointer (some ⟨g,0,none⟩)] #[]
 | _=>.nilFunc
def pkC (L:za) (nx V:Value) (e h:Nat) (cu:Value):List Value:=
 [.int .i64 L.1,.int .i64 L.2.1,.int .i64 L.2.2.1,.int .i64 L.2.2.2.1,.int .i64 L.2.2.2.2,nx,.nilIface,V,.int .u64 (e:Int),.int .u64 (h:Int),cu]
def CuAt (w:World) (base:Nat) (cu:Value) (lo:Option Nat) (h:List Iv):Prop:=∃c x,cu=.pointer (some ⟨c,0,none⟩)∧base≤c∧(∀y,lo=some y→x=y)∧Row w c 193 (ym c 1 x h.getLast? lo.isSome)
theorem CuAt.grown {w w':World} {base g:Nat} {cu:Value} {lo:Option Nat} {h:List Iv} {T:TypeId} {C:List Value} (hc:CuAt w base cu lo h) (hR:Row w g T C) (hT:T≠193) (hg:w.grownBy w' (some g)):CuAt w' base cu lo h:=by
 obtain⟨c,x,h1,h2,h3,h4⟩:=hc;exact⟨c,x,h1,h2,h3,h4.grown hg fun e=>by injection e with e;exact hR.ne h4 hT e.symm⟩
theorem CuAt.later {w w':World} {base:Nat} {cu:Value} {lo:Option Nat} {h:List Iv} (hc:CuAt w base cu lo h) (hb:Below w.heap.size w w'):CuAt w' base cu lo h:=by
 obtain⟨c,x,h1,h2,h3,h4⟩:=hc;exact⟨c,x,h1,h2,h3,h4.later hb⟩
def PkB (w:World) (base:Nat) (s:PS) (V cu:Value):Prop:=
 match s.tag with
 | 0=>V=.slice none 0 0
 | 1=>OwnV w base V s.v
 | 2=>EntO w base V s.v s.rep 0 []
 | 3=>EntO w base V s.v s.rep s.mx []
 | 4=>EntO w base V s.v s.rep s.mx s.h∧CuAt w base cu none s.h
 | 5=>EntO w base V s.v s.rep s.mx s.h∧CuAt w base cu (some s.lo) s.h
 | _=>OwnV w base V s.v
theorem PkB.later {w w':World} {base:Nat} {s:PS} {V cu:Value} (h:PkB w base s V cu) (hb:Below w.heap.size w w'):PkB w' base s V cu:=by
 unfold PkB at h ⊢;split at h
 · exact h
 · exact h.below hb
 · exact h.later hb
 · exact h.later hb
 · exact⟨h.1.later hb,h.2.later hb⟩
 · exact⟨h.1.later hb,h.2.later hb⟩
 · exact h.below hb
theorem PkB.grown {w w':World} {base g:Nat} {s:PS} {V cu:Value} {C:List Value} (h:PkB w base s V cu) (hR:Row w g 282 C) (hg:w.grownBy w' (some g)):PkB w' base s V cu:=by
 have hN:NotT w g:=hR.notT (by rintro(h | h | h) <;> cases h);unfold PkB at h ⊢;split at h
 · exact h
 · exact h.grown hN hg
 · exact h.grown hN hg
 · exact h.grown hN hg
 · exact⟨h.1.grown hN hg,h.2.grown hR (by decide) hg⟩
 · exact⟨h.1.grown hN hg,h.2.grown hR (by decide) hg⟩
 · exact h.grown hN hg
def PkR (w:World) (base g:Nat) (L:za) (nx:Value) (s:PS):Prop:=base≤g∧∃V cu,Row w g 282 (pkC L nx V s.ents s.hls cu)∧PkB w base s V cu
theorem PkR.later {w w':World} {base g:Nat} {L:za} {nx:Value} {s:PS} (h:PkR w base g L nx s) (hb:Below w.heap.size w w'):PkR w' base g L nx s:=by
 obtain⟨h1,V,cu,h2,h3⟩:=h;exact⟨h1,V,cu,h2.later hb,h3.later hb⟩
def PkS (w:World) (base g:Nat) (L:za) (r:Except Nat PS) (e:Ending) (w':World):Prop:=
 Below base w w'∧match r with
 | .error c=>e=.returned (.tuple #[.nilFunc,.iface 35 (.int .i64 (c:Int))])∧∃C,Row w' g 282 C∧C.length=11
 | .ok s'=>∃nx,e=.returned (.tuple #[pkF g s'.tag,.nilIface])∧PkR w' base g L nx s'
def zbz (c:Nat):Value:=if c=0 then .nilIface else .iface 35 (.int .i64 (c:Int))
def I64 (l:Int):Prop:= -9223372036854775808≤l∧l≤9223372036854775807
structure LimsI (L:za):Prop where
 a:I64 L.1
 b:I64 L.2.1
 c:I64 L.2.2.1
 d:I64 L.2.2.2.1
 e:I64 L.2.2.2.2
theorem zjq (x:Nat) (lim:Int) (rest:Nat):(max lim 0<(x:Int)∧zl x lim rest=7)∨(¬max lim 0<(x:Int)∧rest<x∧zl x lim rest=5)∨(¬max lim 0<(x:Int)∧¬rest<x∧zl x lim rest=0):=by
 unfold zl;by_cases h1:max lim 0<(x:Int)
 · left;refine⟨h1,if_pos ?_⟩;omega
 · by_cases h2:rest<x
   · right;left;refine⟨h1,h2,?_⟩;rw[if_neg (by omega),if_pos h2]
   · right;right;refine⟨h1,h2,?_⟩;rw[if_neg (by omega),if_neg h2]
theorem zjr (x:Nat) (lim:Int) (rest:Nat) (w:World) (hx:x<18446744073709551616) (hl:I64 lim) (hr:rest<9223372036854775808):
 Calls Tryz.prog 230 #[.int .u64 (x:Int),.int .i64 lim,.int .i64 (rest:Int)] w fun e w'=>e=.returned (zbz (zl x lim rest))∧w=w':=by
 have hc:=zjq x lim rest;obtain⟨l1,l2⟩:=hl;generalize zl x lim rest=c at*;have Hx:=hid hx;clear hx;by_cases hneg:lim<0
 · have e0:max lim 0=0:=by omega
   rw[e0] at hc;clear e0;rcases hc with ⟨h1,rfl⟩ | ⟨h1,h2,rfl⟩ | ⟨h1,h2,rfl⟩
   · have h1':0<x:=by omega
     clear h1;go_enter Tryz.func230,Tryz.ntmps230;go_wp2_with fail;go_ret;exact⟨rfl,rfl⟩
   · have h1':x=0:=by omega
     omega
   · obtain rfl:x=0:=by omega
     go_enter Tryz.func230,Tryz.ntmps230;go_wp2_with fail;go_ret;exact⟨rfl,rfl⟩
 · obtain⟨m,rfl⟩:=Int.eq_ofNat_of_zero_le (show 0≤lim by omega);have e0:max (m:Int) 0=(m:Int):=by omega
   rw[e0] at hc;clear e0;rcases hc with ⟨h1,rfl⟩ | ⟨h1,h2,rfl⟩ | ⟨h1,h2,rfl⟩
   · have h1':m<x:=by omega
     clear h1;go_enter Tryz.func230,Tryz.ntmps230;go_wp2_with fail;go_ret;exact⟨rfl,rfl⟩
   · have h1':¬m<x:=by omega
     clear h1;go_enter Tryz.func230,Tryz.ntmps230;go_wp2_with fail;go_ret;exact⟨rfl,rfl⟩
   · have h1':¬m<x:=by omega
     clear h1;go_enter Tryz.func230,Tryz.ntmps230;go_wp2_with fail;go_ret;exact⟨rfl,rfl⟩
end
section
open Go.RowKit
def zb0:Nat→Value:=fun _=>.slice none 0 0
def KV (w:World) (base:Nat) (K:Value) (vs:List Vec):Prop:=
 ∃Y,w.ownsRow base 97 2 K vs.length (je vs.length zb0 Y)∧∀i,i<vs.length→EnSl w 0 (Y i) (yt vs i)
theorem zrh (w:World) (base:Nat):KV w base (.slice none 0 0) []:=⟨zb0,World.ownsRow_nil _ _ _ _,fun i h=>by simp at h⟩
theorem KV.steady {w w':World} {base:Nat} {K:Value} {vs:List Vec} (h:KV w base K vs) (hs:Steady 0 qh w w'):KV w' base K vs:=by
 obtain⟨Y,h1,h2⟩:=h;exact⟨Y,za6 h1 hs (.inr (.inr rfl)),fun i hi=>(h2 i hi).steady hs (.inl rfl) (.inr (.inl rfl))⟩
theorem KV.grown {w w':World} {base g:Nat} {K:Value} {vs:List Vec} (h:KV w base K vs) (hN:NotT w g) (hg:w.grownBy w' (some g)):KV w' base K vs:=h.steady (zbu hN (Nat.zero_le _) hg)
theorem KV.later {w w':World} {base:Nat} {K:Value} {vs:List Vec} (h:KV w base K vs) (hb:Below w.heap.size w w'):KV w' base K vs:=h.steady (.of_below hb)
theorem KV.below {w w':World} {base n:Nat} {K:Value} {vs:List Vec} (h:KV w base K vs) (hn:n=w.heap.size) (hb:Below n w w'):KV w' base K vs:=h.later (hn ▸ hb)
theorem zri {vs:List Vec} {v:Vec} {i:Nat} (h:i<vs.length):yt (vs++[v]) i=yt vs i:=by simp[yt,List.getElem?_append_left h]
theorem zrj (vs:List Vec) (v:Vec):yt (vs++[v]) vs.length=v:=by simp[yt]
theorem zrk {n:Nat} (X Y:Nat→Value) (y:Value):je n X (upd Y n y)=je n X Y:=by
 unfold je;congr 1;refine List.map_congr_left fun i hi=>?_
 rw[j8 _ _ (Nat.ne_of_lt (List.mem_range.1 hi))]
theorem KV.snoc {w:World} {base:Nat} {K:Value} {vs:List Vec} (hK:KV w base K vs) {y:Value} {v:Vec} (hv:EnSl w 0 y v) (A:Option Addr) (c:Nat) (hr:Rd w 2 A 1 [.slice none 0 0,y]) (hb:vs.length+1≤1000000000000) (hbase:base≤w.heap.size):
 ∃K' w',(Builtin.append_ #[27,27] 27 #[K,.slice A 1 c]).run Tryz.prog w=.ok K' w'∧KV w' base K' (vs++[v])∧w.grownBy w' K.ownBlock∧(∀k,K.ownBlock=some k→base≤k):=by
 obtain⟨Y,ho,hY⟩:=hK
 have hy1:y.oneCell'=true:=by
  obtain⟨a,n,d,rfl,-⟩:=hv
  rfl
 obtain⟨K',w',h1,h2,h3⟩:=za4 base _ _ _ _ 2 48 Tryz.underlying27 Tryz.info_frg rfl (by omega) K vs.length _ ho A 1 c _ hr (by
  intro u hu;simp only[List.mem_cons,List.not_mem_nil,or_false] at hu;rcases hu with rfl | rfl
  · rfl
  · exact hy1) (by unfold maxLen;omega) (by omega) hbase
 have hs:Steady 0 ky w w':=(Steady.grown (base:=base) ho h3 (by rintro(h | h) <;> cases h)).lower (Nat.zero_le _);refine⟨K',w',h1,⟨upd Y vs.length y,?_,fun i hi=>?_⟩,h3,fun k hk=>(ho.lt k hk).1⟩
 · rw[List.length_append];show w'.ownsRow base 97 2 K' (vs.length+1) (je (vs.length+1) zb0 (upd Y vs.length y));rw[zqf,zrk,ke];exact h2
 · by_cases e:i=vs.length
   · subst e;rw[ke,zrj];exact hv.steady hs (.inl rfl) (.inr rfl)
   · have hi':i<vs.length:=by simp at hi;omega
     rw[j8 _ _ e,zri hi'];exact(hY i hi').steady hs (.inl rfl) (.inr rfl)
theorem KV.at {w:World} {base:Nat} {K:Value} {vs:List Vec} (hK:KV w base K vs) {i:Nat} (hi:i<vs.length):∃g cap,K=.slice (some ⟨g,0,none⟩) vs.length cap∧base≤g∧g<w.heap.size∧∃y,w.cell? ⟨g,i*2+1,none⟩=some y∧w.cell? ⟨g,i*2,none⟩=some (.slice none 0 0)∧EnSl w 0 y (yt vs i):=by
 obtain⟨Y,ho,hY⟩:=hK;obtain⟨g,cap,rfl,hg,hgl,-,-⟩:=zan ho (by omega);obtain⟨e1,e2⟩:=zap hi zb0 Y;have c1:=ho.cells (g:=g) rfl _ _ e1;have c2:=ho.cells (g:=g) rfl _ _ e2;rw[ye,Nat.zero_add] at c1 c2;exact⟨g,cap,rfl,hg,hgl,Y i,c2,c1,hY i hi⟩
def SegM (w:World) (base:Nat) (K:Value) (vs:List Vec) (l:List Iv) (ix:List Nat):Prop:=
 ∃w2 X Y,base≤w2.heap.size∧Steady 0 ky w2 w∧(∀i,i<vs.length→EnSl w2 0 (Y i) (yt vs i))∧w.ownsRow base 97 2 K vs.length (je vs.length X Y)∧
  (∀i,i<vs.length→w.ownsRow w2.heap.size 89 2 (X i) (itN l ix i).length (ivC (itN l ix i)))∧∀i,i<vs.length→∀j,j<vs.length→i≠j→∀b,(X i).ownBlock=some b→(X j).ownBlock≠some b
theorem KV.seg {w:World} {base:Nat} {K:Value} {vs:List Vec} (h:KV w base K vs) (hb:base≤w.heap.size):SegM w base K vs [] []:=by
 obtain⟨Y,h1,h2⟩:=h;exact⟨w,zb0,Y,hb,⟨Nat.le_refl _,fun _ _ _=>rfl⟩,h2,h1,fun i hi=>World.ownsRow_nil _ _ _ _,fun i hi j hj _ b hb=>by simp[zb0,Value.ownBlock] at hb⟩
theorem SegM.steady {w w':World} {base:Nat} {K:Value} {vs:List Vec} {l:List Iv} {ix:List Nat} (h:SegM w base K vs l ix) (hs:Steady 0 qh w w'):SegM w' base K vs l ix:=by
 obtain⟨w2,X,Y,h1,h2,h3,h4,h5,h6⟩:=h;exact⟨w2,X,Y,h1,h2.trans (hs.weak fun T hT=>hT.imp id .inl),h3,za6 h4 hs (.inr (.inr rfl)),fun i hi=>za6 (h5 i hi) hs (.inl rfl),h6⟩
theorem SegM.grown {w w':World} {base g:Nat} {K:Value} {vs:List Vec} {l:List Iv} {ix:List Nat} (h:SegM w base K vs l ix) (hN:NotT w g) (hg:w.grownBy w' (some g)):SegM w' base K vs l ix:=h.steady (zbu hN (Nat.zero_le _) hg)
theorem SegM.later {w w':World} {base:Nat} {K:Value} {vs:List Vec} {l:List Iv} {ix:List Nat} (h:SegM w base K vs l ix) (hb:Below w.heap.size w w'):SegM w' base K vs l ix:=h.steady (.of_below hb)
theorem SegM.at {w:World} {base:Nat} {K:Value} {vs:List Vec} {l:List Iv} {ix:List Nat} (h:SegM w base K vs l ix) {i:Nat} (hi:i<vs.length):∃g cap,K=.slice (some ⟨g,0,none⟩) vs.length cap∧base≤g∧g<w.heap.size∧(∀j,w.frozen? ⟨g,j,none⟩=false)∧∃x,w.cell? ⟨g,i*2,none⟩=some x:=by
 obtain⟨w2,X,Y,h1,h2,h3,h4,h5,h6⟩:=h;obtain⟨g,cap,rfl,hg,hgl,-,-⟩:=zan h4 (by omega);have c1:=h4.cells (g:=g) rfl _ _ (zap hi X Y).1;rw[ye,Nat.zero_add] at c1;exact⟨g,cap,rfl,hg,hgl,fun j=>h4.frozenAt j,X i,c1⟩
theorem SegM.put {w:World} {base g cap:Nat} {vs:List Vec} {l:List Iv} {ix:List Nat} (h:SegM w base (.slice (some ⟨g,0,none⟩) vs.length cap) vs l ix) (hli:ix.length=l.length) {i:Nat} (hi:i<vs.length) {S:Value} (hS:w.cell? ⟨g,i*2,none⟩=some S) (s:Iv)
 (W:World) (hW:Below w.heap.size w W) (A:Option Addr) (c:Nat) (hr:Rd W 2 A 1 (ivC [s])) (hb:l.length+1≤1000000000000):
 ∃S' w',(Builtin.append_ #[91,91] 91 #[S,.slice A 1 c]).run Tryz.prog W=.ok S' w'∧(∃gS m cS,S'=.slice (some ⟨gS,0,none⟩) m cS)∧W.grownBy w' S.ownBlock∧(∀k,S.ownBlock=some k→base≤k∧∃C fr,W.heap[k]?=some (.cells C 89 fr))∧w'.cell? ⟨g,i*2,none⟩=some S∧w'.frozen? ⟨g,i*2,none⟩=false∧
  ∀w2,w'.grownBy w2 none→SegM (w2.setCell ⟨g,i*2,none⟩ S') base (.slice (some ⟨g,0,none⟩) vs.length cap) vs (l++[s]) (ix++[i]):=by
 obtain⟨wz,X,Y,h1,h2,h3,h4,h5,h6⟩:=h
 have e0:X i=S:=by
  have c1:=h4.cells (g:=g) rfl _ _ (zap hi X Y).1;rw[ye,Nat.zero_add,hS] at c1;injection c1 with c1;exact c1.symm
 subst e0;have k4:=zx h4 hW;have k5:=fun j hj=>zx (h5 j hj) hW
 have hz:wz.heap.size≤W.heap.size:=Nat.le_trans h2.size hW.size;have hit:(itN l ix i).length≤l.length:=zfq _ _ _ _;obtain⟨S',w',hrun,ho,hg,hat⟩:=zd5 wz.heap.size (X i) _ _ (k5 i hi) A c s hr (by omega) hz
 have hty:∀k,(X i).ownBlock=some k→∃C fr,W.heap[k]?=some (.cells C 89 fr):=fun k hk=>by
  rcases(k5 i hi).2 with ⟨e,_⟩ | ⟨b,cap',cur,e,_,hh,_⟩
  · rw[e] at hk;cases hk
  · have e':b=k:=by rw[e] at hk;simpa [Value.ownBlock] using hk
    subst e';exact⟨_,_,hh⟩
 have hne:(X i).ownBlock≠some g:=fun e=>kd k4 (k5 i hi) (by decide) g rfl e
 have e4:w'.ownsRow base 97 2 (.slice (some ⟨g,0,none⟩) vs.length cap) vs.length (je vs.length X Y):=yu k4 fun k hk=>by
  have e:g=k:=by simpa [Value.ownBlock] using hk
  subst e;exact hg.block g (k4.lt g rfl).2 fun e=>hne e.symm
 have hcell:w'.cell? ⟨g,i*2,none⟩=some (X i):=by
  have c1:=e4.cells (g:=g) rfl _ _ (zap hi X Y).1;rwa [ye,Nat.zero_add] at c1
 obtain⟨gS,cS,eS,-⟩:=zan ho (Nat.succ_pos _);refine⟨S',w',hrun,⟨gS,_,cS,eS⟩,hg,fun k hk=>⟨Nat.le_trans h1 ((k5 i hi).lt k hk).1,hty k hk⟩,hcell,e4.frozenAt _,fun w2 hw2=>?_⟩;have f4:=yu (w':=w2) e4 fun k hk=>hw2.block k (e4.lt k hk).2 (by simp)
 have fS:=yu (w':=w2) ho fun k hk=>hw2.block k (ho.lt k hk).2 (by simp)
 obtain⟨p1,p2⟩:=f4.stored (i*2) S'
 have hrow:∃C fr,w2.heap[g]?=some (.cells C 97 fr):=by
  rcases f4.2 with ⟨h',_⟩ | ⟨g',cap',cur,h',_,hh,_⟩
  · cases h'
  · cases h';exact⟨_,_,hh⟩
 obtain⟨C,fr,hrow⟩:=hrow;have hset:∀k,k≠g→k<w2.heap.size→(w2.setCell ⟨g,i*2,none⟩ S').heap[k]?=w2.heap[k]?:=fun k hk hl=>p2.block k hl fun e=>hk (by injection e)
 have hst:Steady 0 ky w2 (w2.setCell ⟨g,i*2,none⟩ S'):=.setCell hrow (Nat.zero_le _) (by rintro(h | h) <;> cases h)
 have hsWw:Steady 0 ky wz w':=⟨Nat.le_trans hz hg.size,fun k hk hp=>by
  have hkW:k<W.heap.size:=Nat.lt_of_lt_of_le hk hz;have hkw:=Nat.lt_of_lt_of_le hk h2.size;rw[hg.block k hkW fun e=>by have:=((k5 i hi).lt k e.symm).1;omega,hW.block k hkw];exact h2.row k hk hp⟩
 refine⟨wz,upd X i S',Y,h1,(hsWw.trans (⟨hw2.size,fun k hk _=>hw2.block k hk (by simp)⟩:Steady 0 ky w' w2)).trans hst,h3,?_,fun j hj=>?_,fun a ha b hb hab x hx=>?_⟩
 · rw[←zfs hi];exact p1
 · by_cases e:j=i
   · subst e;rw[ke,zd9 hli,if_pos rfl,List.length_append]
     exact yu fS fun k hk=>hset k (fun e=>by
      subst e;exact kd f4 fS (by decide) k rfl hk) (fS.lt k hk).2
   · rw[j8 _ _ e,zd9 hli,if_neg (fun h=>e h.symm),List.append_nil];refine yu (h5 j hj) fun k hk=>?_
     have hl5:=(h5 j hj).lt k hk;have hkW:k<W.heap.size:=Nat.lt_of_lt_of_le hl5.2 hW.size;rw[hset k (fun e'=>by subst e';exact kd h4 (h5 j hj) (by decide) k rfl hk) (Nat.lt_of_lt_of_le hkW (Nat.le_trans hg.size hw2.size)),hw2.block k (Nat.lt_of_lt_of_le hkW hg.size) (by simp),hg.block k hkW (fun e'=>h6 j hj i hi e k hk e'.symm),hW.block k hl5.2]
 · by_cases ea:a=i
   · subst ea;rw[ke] at hx;rw[j8 _ _ (fun e=>hab e.symm)];intro hy;rcases hat x hx with h' | h'
     · exact h6 a ha b hb hab x h' hy
     · have:=((h5 b hb).lt x hy).2;have:=hW.size;omega
   · rw[j8 _ _ ea] at hx;by_cases eb:b=i
     · subst eb;rw[ke];intro hy;rcases hat x hy with h' | h'
       · exact h6 a ha b hb hab x hx h'
       · have:=((h5 a ha).lt x hx).2;have:=hW.size;omega
     · rw[j8 _ _ eb];exact h6 a ha b hb hab x hx
theorem SegM.frags {w:World} {base:Nat} {K:Value} {vs:List Vec} {l:List Iv} {ix:List Nat} (h:SegM w base K vs l ix) (hl:yg l):∃a c,K=.slice a vs.length c∧Frags w a vs.length c (zt vs l ix):=by
 obtain⟨wz,X,Y,h1,h2,h3,h4,h5,h6⟩:=h;have hlen:(zt vs l ix).length=vs.length:=by rw[zd8];simp
 have hnth:∀i,i<vs.length→zc (zt vs l ix) i=(itN l ix i,yt vs i):=fun i hi=>by
  rw[z7 (by rw[hlen];exact hi)];simp[zd8]
 rcases Nat.eq_zero_or_pos vs.length with h0 | h0
 · obtain⟨a,c,rfl⟩:=j1 h4;rcases h4.2 with ⟨h',-⟩ | ⟨g,cap,cur,h',hg,hh,hnc,hcm,_⟩
   · injection h' with e1 _ e3;subst e1 e3;refine⟨none,0,rfl,?_⟩;rw[h0] at hlen ⊢;rw[List.length_eq_zero_iff.1 hlen];exact zcq w
   · injection h' with e1 _ e3;subst e1 e3;exact⟨_,_,rfl,hlen,hnc,by unfold maxLen at hcm;omega,(by intro e;cases e),fun hn=>by omega⟩
 · obtain⟨g,cap,rfl,hg,hgl,hnc,hcm⟩:=zan h4 h0;refine⟨_,_,rfl,hlen,hnc,by unfold maxLen at hcm;omega,(by intro e;cases e),fun _=>⟨g,0,rfl,fun i hi=>?_⟩⟩;obtain⟨e1,e2⟩:=zap hi X Y;have c1:=h4.cells (g:=g) rfl _ _ e1;have c2:=h4.cells (g:=g) rfl _ _ e2;rw[ye] at c1 c2;rw[hnth i hi];obtain⟨a,c,e,hI⟩:=ze1 (h5 i hi) (fun t ht=>hl t (ziw (Nat.le_refl _) ht));obtain⟨a',m',c',e',hE⟩:=(h3 i hi).steady h2 (.inl rfl) (.inr rfl);rw[e] at c1;rw[e'] at c2;exact⟨⟨a,_,c,c1,hI⟩,⟨a',m',c',by rw[Nat.add_assoc];exact c2,hE.ents⟩⟩
theorem SegM.len {w:World} {base:Nat} {K:Value} {vs:List Vec} {l:List Iv} {ix:List Nat} (h:SegM w base K vs l ix):∃a c,K=.slice a vs.length c:=by
 obtain⟨wz,X,Y,h1,h2,h3,h4,h5,h6⟩:=h;exact j1 h4
theorem KV.len {w:World} {base:Nat} {K:Value} {vs:List Vec} (h:KV w base K vs):∃a c,K=.slice a vs.length c:=by
 obtain⟨Y,h4,-⟩:=h;exact j1 h4
theorem OwnV.enSl {w:World} {base:Nat} {V:Value} {v:Vec} (h:OwnV w base V v) (hl:LtV v):EnSl w 0 V v:=by
 obtain⟨a,c,rfl,hE⟩:=h.entsT (base':=0) hl;exact⟨a,_,c,rfl,hE⟩
theorem zrl (w:World):Calls Tryz.prog 174 #[.slice none 0 0] w fun e w'=>e=.returned (.slice none 0 0)∧Below w.heap.size w w':=by
 go_enter Tryz.func174,Tryz.ntmps174;go_wp2_with fail;refine(zqu _).mono ?_;rintro e w1 ⟨⟨y,rfl,ho⟩,hb1⟩;obtain⟨ya,yc,rfl⟩:=j1 ho;obtain⟨g,rfl,hg,hc1,hcell⟩:=zni ho (by omega);have hcell0:w1.cell? ⟨g,0,none⟩=some (.int .u64 0):=hcell 0 (by omega);have Hb1:=hid hb1;have Hc:=hid hcell0;have Hg:=hid hg;clear ho hb1 hcell hcell0;go_wp2_with fail;go_loopw [3,12] (fun v i wr=>∃k:Nat,k≤1∧v=.slice none 0 0∧i=.int .i64 k∧Hid (Below w.heap.size w wr)∧Hid (wr.cell? ⟨g,0,none⟩=some (.int .u64 0))) (fun _ i _=>1 - (intOf i).toNat)
 case atStart=>exact⟨0,by omega,rfl,rfl,Hb1,Hc⟩
 case round=>
  obtain⟨k,hk,rfl,rfl,hb,hc⟩:=hrel;rcases(by omega:k=0∨k=1) with rfl | rfl
  · have hcc:=hc.out;go_wp2_with fail;refine(zqs 0 _).mono ?_;rintro e w2 ⟨⟨ma,mc,rfl⟩,hb2⟩;have Hb2:=hid (hb.out.trans (hb2.mono hb.out.size));have Hc2:=hid ((hb2.cell (p:=⟨g,0,none⟩) (ze hcc)).trans hcc);clear hb2 hcc;go_wp2_with fail;go_roundw
    case rel=>exact⟨1,by omega,rfl,rfl,Hb2,Hc2⟩
    case measure=>simp[intOf]
  · go_wp2_with fail;go_ret;exact⟨rfl,hb.out⟩
theorem zrm (w:World):Calls Tryz.prog 127 #[.slice none 0 0] w fun e w'=>e=.returned (.slice none 0 0)∧Below w.heap.size w w':=by
 go_enter Tryz.func127,Tryz.ntmps127;go_wp2_with fail;refine(zrl _).mono ?_;rintro e w1 ⟨rfl,hb1⟩;have Hb1:=hid hb1;clear hb1;go_wp2_with fail;go_loopw [3,9] (fun v i wr=>v=.slice none 0 0∧i=.int .i64 0∧wr=w1) (fun _ _ _=>0)
 case atStart=>exact⟨rfl,rfl,rfl⟩
 case round=>
  obtain⟨rfl,rfl,rfl⟩:=hrel;go_wp2_with fail;go_ret;exact⟨rfl,Hb1.out⟩
theorem zrn (w:World):Calls Tryz.prog 126 #[.slice none 0 0] w fun e w'=>e=.returned (.slice none 0 0)∧Below w.heap.size w w':=by
 go_enter Tryz.func126,Tryz.ntmps126;go_wp2_with fail;go_loopw [11] (fun i wr=>i=.int .i64 0∧Hid (Below w.heap.size w wr)∧Hid (wr.cell? ⟨w.heap.size,0,none⟩=some (.slice none 0 0))) (fun _ _=>0)
 case atStart=>exact⟨rfl,hid ((Below.refl _ _).alloc (Nat.le_refl _) _),hid ((yf w _ [.slice none 0 0]).cell 0 rfl)⟩
 case round=>
  obtain⟨rfl,hb,hc⟩:=hrel;have c0:=hc.out;go_wp2_with fail;go_ret;exact⟨rfl,hb.out⟩
theorem zro (w:World):Calls Tryz.prog 86 #[.slice none 0 0] w fun e w'=>e=.returned (.slice none 0 0)∧Below w.heap.size w w':=by
 go_enter Tryz.func86,Tryz.ntmps86;go_wp2_with fail;refine(zrm _).mono ?_;rintro e w1 ⟨rfl,hb1⟩;have Hb1:=hid hb1;clear hb1;go_wp2_with fail;refine(zrn _).mono ?_;rintro e w2 ⟨rfl,hb2⟩;have Hb2:=hid (Hb1.out.trans (hb2.mono Hb1.out.size));clear hb2;go_wp2_with fail;go_ret;exact⟨rfl,Hb2.out⟩
theorem zrp (x f:Value) (w:World):Calls Tryz.prog 216 #[x,.int .i64 0,.int .i64 0,f] w fun e w'=>e=.returned (.tuple #[])∧w'=w:=by
 go_enter Tryz.func216,Tryz.ntmps216;go_wp2;go_loopw [8,9] (fun i _ wr=>i=.int .i64 1∧wr=w) (fun _ _ _=>0)
 case atStart=>exact⟨rfl,rfl⟩
 case round=>
  obtain⟨rfl,rfl⟩:=hrel;go_wp2;go_end0
  exact⟨rfl,rfl⟩
theorem zrq (x l f:Value) (w:World):Calls Tryz.prog 176 #[x,.int .i64 0,.int .i64 0,l,f] w fun e w'=>e=.returned (.tuple #[])∧w'=w:=by
 go_enter Tryz.func176,Tryz.ntmps176;go_wp2;go_loopw [1,2,3,10,11,12,13,14,15,16,17,18,19,20] (fun a b _ _ _ _ _ _ _ _ _ _ _ _ wr=>a=.int .i64 0∧b=.int .i64 0∧wr=w) (fun _ _ _ _ _ _ _ _ _ _ _ _ _ _ _=>0)
 case atStart=>exact⟨rfl,rfl,rfl⟩
 case round=>
  obtain⟨rfl,rfl,rfl⟩:=hrel;go_wp2_with (go_at_call 216;refine(zrp _ _ _).mono ?_;rintro e w' ⟨rfl,rfl⟩);exact bodyPost_ret (results_none rfl _ _ _) rfl ⟨rfl,rfl⟩
theorem zrr (f:Value) (w:World):Calls Tryz.prog 129 #[.slice none 0 0,f] w fun e w'=>e=.returned (.tuple #[])∧w'=w:=by
 have Hl:=hid (fun w=>Tryz.bits_Len (0:Int) w (by omega) (by omega));have wr:IntKind.u64.wrap (0:Int)=0:=rfl;go_enter Tryz.func129,Tryz.ntmps129;go_wp2_with (first | (go_at_call 177;refine(Hl.out _).mono ?_;rintro e w' ⟨rfl,rfl⟩) | (go_at_call 176;refine(zrq _ _ _ _).mono ?_;rintro e w' ⟨rfl,rfl⟩));go_end0
 exact⟨rfl,rfl⟩
set_option maxRecDepth 20000 in
theorem zrs (w:World):Calls Tryz.prog 89 #[.slice none 0 0] w fun e w'=>(∃a c,e=.returned (.tuple #[.slice none 0 0,.slice a 0 c]))∧Below w.heap.size w w':=by
 go_enter Tryz.func89,Tryz.ntmps89;go_wp2_with fail;go_loopw [4,12] (fun v i wr=>v=.slice none 0 0∧i=.int .i64 0∧wr=w) (fun _ _ _=>0)
 case atStart=>exact⟨rfl,rfl,rfl⟩
 case round=>
  obtain⟨rfl,rfl,rfl⟩:=hrel;go_wp2_with fail;refine(zrr _ _).mono ?_;rintro e w1 ⟨rfl,rfl⟩;obtain⟨w4,hr4,-,hb4⟩:=zoz w1 w1.heap.size 0 (by omega) (Nat.le_refl _);have hr5:(Instr.makeSlice 60 (.int .i64 0) (.int .i64 0)).run Tryz.prog w1=.ok (.slice (some ⟨w1.heap.size,0,none⟩) 0 0) w4:=hr4;have Hb4:=hid hb4;clear hr4 hb4;go_wp2_with fail;clear hr5;go_loopw [8,28] (fun v i wr=>i=.int .i64 0∧wr=w4) (fun _ _ _=>0)
  case atStart=>exact⟨rfl,rfl⟩
  case round=>
   obtain⟨rfl,rfl⟩:=hrel;go_wp2_with fail;go_ret2;exact⟨⟨_,_,rfl⟩,Hb4.out⟩
set_option maxRecDepth 20000 in
theorem zrt (w:World) (hD:Door w):Calls Tryz.prog 54 #[.slice none 0 0] w fun e w'=>(∃v,e=.returned (.tuple #[v,.nilIface])∧w'.ownsRow w.heap.size 5 1 v 2 (u8s [0,0]))∧Below w.heap.size w w':=by
 have HC:=hid (zqm none 0 0 [] w (zcq w) hD);have hv0:zo 0=[0]:=rfl;clear hD;go_enter Tryz.func54,Tryz.ntmps54;go_wp2_with fail;refine HC.out.mono ?_;rintro e w1 ⟨rfl,hb1⟩;have Hb1:=hid hb1;have hck:zh (js (ckF []))=.nilIface:=rfl;rw[hck];clear hb1 hck;go_wp2_with fail;refine(zro _).mono ?_;rintro e w2 ⟨rfl,hb2⟩;have Hb2:=hid (Hb1.out.trans (hb2.mono Hb1.out.size));clear hb2;go_wp2_with fail;refine(zg7 (.slice none 0 0) 0 w.heap.size [] 0 w2 (by omega) (World.ownsRow_nil _ _ _ _) Hb2.out.size (by omega)).mono ?_;rintro e w3 ⟨v3,rfl,ho3,hb3⟩;have Ho3:=hid (show w3.ownsRow w.heap.size 5 1 v3 1 (u8s [0]) from ho3);have Hb3:=hid (Hb2.out.trans hb3);clear ho3 hb3;go_wp2_with fail;go_loopw [6,29] (fun v i wr=>v=v3∧i=.int .i64 0∧wr=w3) (fun _ _ _=>0)
 case atStart=>exact⟨rfl,rfl,rfl⟩
 case round=>
  obtain⟨rfl,rfl,rfl⟩:=hrel;go_wp2_with fail;refine(zrs _).mono ?_;rintro e w4 ⟨⟨sa,sc,rfl⟩,hb4⟩;have Ho4:=hid (zx Ho3.out hb4);have Hb4:=hid (Hb3.out.trans (hb4.mono Hb3.out.size));clear hb4;go_wp2_with fail;refine(zq8 none 0 0 0 [] w4 (ze0 _) (by first | trivial | (intro i hi;simp at hi) | simp[vv] | decide) (by omega) (by omega)).mono ?_;rintro e w5 ⟨⟨v5,rfl,ho5⟩,hb5⟩;obtain⟨da,dc,rfl⟩:=j1 ho5;have Ho5:=hid (zx Ho4.out hb5);have Hb5:=hid (Hb4.out.trans (hb5.mono Hb4.out.size));clear hb5 ho5;go_wp2_with fail;refine(zg7 _ 1 w.heap.size _ 0 w5 (by omega) Ho5.out Hb5.out.size (by omega)).mono ?_;rintro e w6 ⟨v6,rfl,ho6,hb6⟩;have Ho6:=hid (show w6.ownsRow w.heap.size 5 1 v6 2 (u8s [0,0]) from ho6);have Hb6:=hid (Hb5.out.trans hb6);clear ho6 hb6;go_wp2_with fail;go_loopw [6,55] (fun v i wr=>v=v6∧i=.int .i64 0∧wr=w6) (fun _ _ _=>0)
  case atStart=>exact⟨rfl,rfl,rfl⟩
  case round=>
   obtain⟨rfl,rfl,rfl⟩:=hrel;go_wp2_with fail;go_ret2;exact⟨⟨_,rfl,Ho6.out⟩,Hb6.out⟩
theorem Rf.keep {w w':World} {g:Nat} {a:Option Addr} {n cap E:Nat} {l:List Nat} (hB:∀W,w.grownBy W (some g)→Rf W a n cap E l) (h:w.grownBy w' (some g)):∀W,w'.grownBy W (some g)→Rf W a n cap E l:=fun W hW=>hB W (vg h hW)
theorem zf3 {w w' w2:World} {r r2:Option Nat} (h:w.grownBy w' r) (h2:w'.grownBy w2 r2) (hk:∀k,r2=some k→w.heap.size≤k):w.grownBy w2 r:=
 ⟨h2.os.trans h.os,h2.tape.trans h.tape,h2.output.trans h.output,Nat.le_trans h.size h2.size,fun k hlt hne=>(h2.block k (Nat.lt_of_lt_of_le hlt h.size) (fun e=>by have:=hk k e.symm;omega)).trans (h.block k hlt hne)⟩
theorem CurM.grown {w w':World} {g:Nat} {B:Value} {E:Nat} {s:Except (Nat×Nat) Nat} {r:Option Nat} (h:CurM w g B E s) (hg:w.grownBy w' r) (hr:some g≠r):CurM w' g B E s:=by
 cases s with
 | ok q=>exact Row.grown h hg hr
 | error e=>obtain⟨q,h⟩:=h;exact⟨q,h.grown hg hr⟩
theorem CurM.ne_own {w:World} {g base sz n:Nat} {B V:Value} {E:Nat} {s:Except (Nat×Nat) Nat} {e:TypeId} {xs:List Value} (h:CurM w g B E s) (ho:w.ownsRow base e sz V n xs) (hT:106≠e):∀k,V.ownBlock=some k→k≠g:=by
 cases s with
 | ok q=>exact Row.ne_own h ho hT
 | error e=>obtain⟨q,h⟩:=h;exact Row.ne_own h ho hT
def FS (w0:World) (g:Nat) (B:Value) (q E c p:Nat) (W:World):Prop:=w0.grownBy W (some g)∧(Row W g 106 (zea B q E 0 0 false)∨Row W g 106 (zea B q E c p false))
theorem FS.drew {w0 W:World} {g q E c p:Nat} {B:Value} (h:FS w0 g B q E c p W):FS w0 g B q E c p W.drew:=⟨zom h.1 1,h.2⟩
theorem FS.later {w0 W W':World} {g q E c p:Nat} {B:Value} (h:FS w0 g B q E c p W) (hb:Below W.heap.size W W'):FS w0 g B q E c p W':=⟨zbp h.1 hb,h.2.imp (fun h=>h.later hb) (fun h=>h.later hb)⟩
theorem FS.next {w0 W:World} {g q E c p:Nat} {B:Value} (h:FS w0 g B q E c p W):W.cell? ⟨g,1,none⟩=some (.int .i64 q):=by
 rcases h.2 with h | h
 · exact h.cell 1 rfl
 · exact h.cell 1 rfl
theorem FS.one {w0 W:World} {g q E c p:Nat} {B:Value} (h:FS w0 g B q E c p W):w0.grownBy W (some g):=h.1
theorem OwnV.slice {w:World} {base:Nat} {V:Value} {v:Vec} (h:OwnV w base V v):∃a c,V=.slice a v.length c:=by
 obtain⟨ss,ho,-⟩:=h;exact j1 ho
theorem OwnV.ne {w:World} {base g:Nat} {B V:Value} {E:Nat} {s:Except (Nat×Nat) Nat} {v:Vec} (hV:OwnV w base V v) (h:CurM w g B E s):some g≠V.ownBlock:=by
 obtain⟨ss,ho,-⟩:=hV;exact fun e=>CurM.ne_own h ho (by decide) g e.symm rfl
theorem OwnV.row {w:World} {base r:Nat} {V:Value} {v:Vec} {T:TypeId} {C:List Value} (hV:OwnV w base V v) (h:Row w r T C) (hT:T≠93):some r≠V.ownBlock:=by
 obtain⟨ss,ho,-⟩:=hV;exact fun e=>h.ne_own ho hT r e.symm rfl
theorem CurM.notT {w:World} {g:Nat} {B:Value} {E:Nat} {s:Except (Nat×Nat) Nat} (h:CurM w g B E s):NotT w g:=by
 cases s with
 | ok q=>exact Row.notT h (by unfold qh;decide)
 | error e=>obtain⟨q,h⟩:=h;exact h.notT (by unfold qh;decide)
