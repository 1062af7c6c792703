/- Part 09. -/
import Derived.Test.YtdnipikdddfhfaaGreatDoorWd08
set_option linter.unusedVariables false
set_option maxHeartbeats 16000000
namespace Go.Proofs.YtdnipikdddfhfaaGreatDoor
open Lib (hid)
section
def qh:List Nat→List Nat→Int
 | [],[]=>0
 | [],_ :: _=> -1
 | _ :: _,[]=>1
 | a :: l,b :: m=>if a<b then -1 else if b<a then 1 else qh l m
theorem znf:∀(l:List Nat),qh l l=0
 | []=>rfl
 | a :: l=>by rw[qh,if_neg (Nat.lt_irrefl _),if_neg (Nat.lt_irrefl _),znf l]
theorem zng:∀{a b:List Nat},qh a b=0→a=b
 | [],[],_=>rfl
 | [],_ :: _,h=>by simp[qh] at h
 | _ :: _,[],h=>by simp[qh] at h
 | a :: l,b :: m,h=>by
   rw[qh] at h;split at h
   · cases h
   · split at h
     · cases h
     · have:=zng h;have:a=b:=by omega
       subst this;congr
theorem znh:∀(a b:List Nat),qh a b= -1∨qh a b=0∨qh a b=1
 | [],[]=>.inr (.inl rfl)
 | [],_ :: _=>.inl rfl
 | _ :: _,[]=>.inr (.inr rfl)
 | a :: l,b :: m=>by
   rw[qh];split
   · exact .inl rfl
   · split
     · exact .inr (.inr rfl)
     · exact znh l m
theorem zni:∀(a b:List Nat),qh b a= - qh a b
 | [],[]=>rfl
 | [],_ :: _=>rfl
 | _ :: _,[]=>rfl
 | a :: l,b :: m=>by
   rw[qh,qh];by_cases h1:a<b
   · rw[if_pos h1,if_neg (by omega),if_pos h1];rfl
   · by_cases h2:b<a
     · rw[if_pos h2,if_neg h1,if_pos h2]
     · rw[if_neg h1,if_neg h2,if_neg h2,if_neg h1,zni l m]
theorem znj:∀{a b c:List Nat},qh a b= -1→qh b c= -1→qh a c= -1
 | [],[],_,h,_=>by simp[qh] at h
 | [],_ :: _,[],_,h=>by simp[qh] at h
 | [],_ :: _,_ :: _,_,_=>rfl
 | _ :: _,[],_,h,_=>by simp[qh] at h
 | _ :: _,_ :: _,[],_,h=>by simp[qh] at h
 | a :: l,b :: m,c :: n,h1,h2=>by
   rw[qh] at h1 h2 ⊢;split at h1
   · split at h2
     · rw[if_pos (by omega)]
     · split at h2
       · cases h2
       · rw[if_pos (by omega)]
   · split at h1
     · cases h1
     · split at h2
       · rw[if_pos (by omega)]
       · split at h2
         · cases h2
         · rw[if_neg (by omega),if_neg (by omega),znj h1 h2]
def qf (l:List Iv):List Nat:=l.flatMap fun s=>[s.1,s.2]
def qz (e:Ent):List Nat:=e.1 :: e.2.1 :: e.2.2.length :: qf e.2.2
def zl (v:Vec):List Nat:=v.length :: v.flatMap qz
theorem znk:∀{l m:List Iv} {r s:List Nat},l.length=m.length→qf l++r=qf m++s→l=m∧r=s
 | [],[],r,s,_,h=>⟨rfl,by simpa [qf] using h⟩
 | [],_ :: _,_,_,h,_=>by simp at h
 | _ :: _,[],_,_,h,_=>by simp at h
 | (a,b) :: l,(c,d) :: m,r,s,hl,h=>by
   have e1:qf ((a,b) :: l)=a :: b :: qf l:=rfl;have e2:qf ((c,d) :: m)=c :: d :: qf m:=rfl;rw[e1,e2] at h;simp only[List.cons_append,List.cons.injEq] at h;obtain⟨rfl,rfl,h⟩:=h;obtain⟨rfl,rfl⟩:=znk (by simpa using hl) h;exact⟨rfl,rfl⟩
theorem zwe {e f:Ent} {r s:List Nat} (h:qz e++r=qz f++s):e=f∧r=s:=by
 obtain⟨a,b,l⟩:=e;obtain⟨c,d,m⟩:=f;simp only[qz,List.cons_append,List.cons.injEq] at h;obtain⟨rfl,rfl,hl,h⟩:=h;obtain⟨rfl,rfl⟩:=znk hl h;exact⟨rfl,rfl⟩
theorem znl:∀{v u:Vec},v.length=u.length→v.flatMap qz=u.flatMap qz→v=u
 | [],[],_,_=>rfl
 | [],_ :: _,h,_=>by simp at h
 | _ :: _,[],h,_=>by simp at h
 | e :: v,f :: u,hl,h=>by
   rw[List.flatMap_cons,List.flatMap_cons] at h;obtain⟨rfl,h2⟩:=zwe h;rw[znl (by simpa using hl) h2]
theorem zwf {v u:Vec} (h:zl v=zl u):v=u:=by
 simp only[zl,List.cons.injEq] at h;exact znl h.1 h.2
def zw (a b:Vec):Int:=qh (zl a) (zl b)
theorem zg3 (a:Vec):zw a a=0:=znf _
theorem znm {a b:Vec} (h:zw a b=0):a=b:=zwf (zng h)
theorem zfp (a b:Vec):zw a b= -1∨zw a b=0∨zw a b=1:=znh _ _
theorem zwg (a b:Vec):zw b a= - zw a b:=zni _ _
theorem zg4 {a b c:Vec} (h1:zw a b= -1) (h2:zw b c= -1):zw a c= -1:=znj h1 h2
theorem znn {α:Type} {lt:α→α→Prop} (irr:∀a,¬lt a a) (tr:∀a b c,lt a b→lt b c→lt a c):∀{l m:List α},l.Pairwise lt→m.Pairwise lt→(∀x,x∈l↔x∈m)→l=m
 | [],[],_,_,_=>rfl
 | [],b :: m,_,_,h=>by have:=(h b).2 (List.mem_cons_self ..);simp at this
 | a :: l,[],_,_,h=>by have:=(h a).1 (List.mem_cons_self ..);simp at this
 | a :: l,b :: m,h1,h2,h=>by
   obtain⟨p1,q1⟩:=List.pairwise_cons.1 h1;obtain⟨p2,q2⟩:=List.pairwise_cons.1 h2
   have e:a=b:=by
    rcases List.mem_cons.1 ((h a).1 (List.mem_cons_self ..)) with e | ha
    · exact e
    · rcases List.mem_cons.1 ((h b).2 (List.mem_cons_self ..)) with e | hb
      · exact e.symm
      · exact absurd (tr _ _ _ (p1 b hb) (p2 a ha)) (irr a)
   subst e;congr 1;refine znn irr tr q1 q2 fun x=>?_
   constructor
   · intro hx;rcases List.mem_cons.1 ((h x).1 (List.mem_cons_of_mem _ hx)) with e | h'
     · subst e;exact absurd (p1 x hx) (irr x)
     · exact h'
   · intro hx;rcases List.mem_cons.1 ((h x).2 (List.mem_cons_of_mem _ hx)) with e | h'
     · subst e;exact absurd (p2 x hx) (irr x)
     · exact h'
def zcd (e:Ent) (c:Nat):Bool:=decide (c≤e.2.1) && !mem e.2.2 c
def jp (v:Vec) (r c:Nat):Bool:=v.any fun e=>decide (e.1=r) && zcd e c
theorem zbl {v:Vec} {r c:Nat}:jp v r c=true↔∃e∈v,e.1=r∧zcd e c=true:=by simp[jp]
def vg (e f:Ent):Prop:=e.1<f.1
structure CanV (v:Vec):Prop where
 asc:v.Pairwise vg
 ent:∀e∈v,CanE e
theorem zno {e:Ent} (h:CanE e):zcd e e.2.1=true:=by
 unfold zcd;rw[h.top];simp
theorem zg5 {v:Vec} (h:v.Pairwise vg) {e f:Ent} (he:e∈v) (hf:f∈v) (hr:e.1=f.1):e=f:=by
 induction v with
 | nil=>simp at he
 | cons a v ih=>
  obtain⟨p,q⟩:=List.pairwise_cons.1 h;rcases List.mem_cons.1 he with rfl | he2
  · rcases List.mem_cons.1 hf with e | hf2
    · exact e.symm
    · have:=p f hf2;unfold vg at this;omega
  · rcases List.mem_cons.1 hf with rfl | hf2
    · have:=p e he2;unfold vg at this;omega
    · exact ih q he2 hf2
theorem znp {v u:Vec} (hv:CanV v) (hu:CanV u) (hk:∀r c,jp v r c=jp u r c) {e:Ent} (he:e∈v):e∈u:=by
 have h1:jp v e.1 e.2.1=true:=zbl.2 ⟨e,he,rfl,zno (hv.ent e he)⟩;rw[hk] at h1;obtain⟨f,hf,hr,_⟩:=zbl.1 h1
 have:e=f:=znb (hv.ent e he) (hu.ent f hf) hr.symm fun c=>by
  rw[Bool.eq_iff_iff];constructor
  · intro h;have h2:jp u e.1 c=true:=by rw[←hk];exact zbl.2 ⟨e,he,rfl,h⟩
    obtain⟨g,hg,hr2,hc⟩:=zbl.1 h2;rw[zg5 hu.asc hf hg (by omega)];exact hc
  · intro h;have h2:jp v e.1 c=true:=by rw[hk];exact zbl.2 ⟨f,hf,hr,h⟩
    obtain⟨g,hg,hr2,hc⟩:=zbl.1 h2;rw[zg5 hv.asc he hg (by omega)];exact hc
 rw[this];exact hf
theorem znq {v u:Vec} (hv:CanV v) (hu:CanV u) (hk:∀r c,jp v r c=jp u r c):v=u:=
 znn (lt:=vg) (fun a h=>Nat.lt_irrefl _ h) (fun a b c h1 h2=>Nat.lt_trans h1 h2) hv.asc hu.asc fun e=>⟨znp hv hu hk,znp hu hv fun r c=>(hk r c).symm⟩
def zak (k:Kno) (x r c:Nat):Bool:=k.any fun f=>mem f.1 x && jp f.2 r c
theorem zdz {k:Kno} {x r c:Nat}:zak k x r c=true↔∃f∈k,mem f.1 x=true∧jp f.2 r c=true:=by simp[zak]
def kk (f g:Frg):Prop:=zw f.2 g.2= -1
structure CanK (k:Kno):Prop where
 items:∀f∈k,Good f.1∧f.1≠[]
 vec:∀f∈k,CanV f.2∧f.2≠[]
 apart:∀f∈k,∀g∈k,∀x,mem f.1 x=true→mem g.1 x=true→f=g
 asc:k.Pairwise kk
theorem zwh {k:Kno} (h:k.Pairwise kk) {f g:Frg} (hf:f∈k) (hg:g∈k) (hv:f.2=g.2):f=g:=by
 induction k with
 | nil=>simp at hf
 | cons a k ih=>
  obtain⟨p,q⟩:=List.pairwise_cons.1 h;rcases List.mem_cons.1 hf with rfl | hf2
  · rcases List.mem_cons.1 hg with e | hg2
    · exact e.symm
    · have:=p g hg2;unfold kk at this;rw[hv,zg3] at this;cases this
  · rcases List.mem_cons.1 hg with rfl | hg2
    · have:=p f hf2;unfold kk at this;rw[hv,zg3] at this;cases this
    · exact ih q hf2 hg2
theorem zwi {l:List Iv} (h:Good l) (hne:l≠[]):∃x,mem l x=true:=by
 cases l with
 | nil=>exact absurd rfl hne
 | cons s l=>exact⟨s.2,(zjk h (s:=s) (by simp)).1⟩
def jf:List Iv→Nat→Option Nat
 | [],_=>none
 | s :: l,x=>if x<s.1 then some s.1 else if s.2<18446744073709551615∧x<s.2+1 then some (s.2+1) else jf l x
theorem zg6 (s:Iv) (l:List Iv):y7 (s :: l)=bnd s++y7 l:=rfl
theorem zct {s:Iv} {z:Nat}:z∈bnd s↔z=s.1∨(s.2<18446744073709551615∧z=s.2+1):=by
 unfold bnd;split
 · rename_i h;simp[h]
 · rename_i h;simp[h]
theorem zwj {s:Iv} {l:List Iv} (h:Good (s :: l)):∀z∈y7 l,s.2+1<z:=by
 intro z hz;obtain⟨t,ht,hz⟩:=List.mem_flatMap.1 hz;have h1:=h.lower t ht;have h2:=h.tail.ok t ht;rcases zct.1 hz with rfl | ⟨_,rfl⟩ <;> omega
theorem zg7:∀{l:List Iv} {x y:Nat},Good l→jf l x=some y→x<y∧y∈y7 l∧∀z∈y7 l,x<z→y≤z
 | [],x,y,_,h=>by simp[jf] at h
 | s :: l,x,y,hG,h=>by
   have hs:=hG.head;have hge:=zwj hG;rw[jf] at h;by_cases h1:x<s.1
   · rw[if_pos h1] at h;cases h;refine⟨h1,by rw[zg6];exact List.mem_append_left _ (zct.2 (.inl rfl)),fun z hz _=>?_⟩;rcases List.mem_append.1 hz with hz | hz
     · rcases zct.1 hz with rfl | ⟨_,rfl⟩ <;> omega
     · have:=hge z hz;omega
   · rw[if_neg h1] at h;by_cases h2:s.2<18446744073709551615∧x<s.2+1
     · rw[if_pos h2] at h;cases h;refine⟨h2.2,by rw[zg6];exact List.mem_append_left _ (zct.2 (.inr ⟨h2.1,rfl⟩)),fun z hz hx=>?_⟩;rcases List.mem_append.1 hz with hz | hz
       · rcases zct.1 hz with rfl | ⟨_,rfl⟩ <;> omega
       · have:=hge z hz;omega
     · rw[if_neg h2] at h;obtain⟨k1,k2,k3⟩:=zg7 hG.tail h;refine⟨k1,by rw[zg6];exact List.mem_append_right _ k2,fun z hz hx=>?_⟩;rcases List.mem_append.1 hz with hz | hz
       · rcases zct.1 hz with rfl | ⟨_,rfl⟩ <;> omega
       · exact k3 z hz hx
theorem zfq:∀{l:List Iv} {x:Nat},jf l x=none→∀z∈y7 l,z≤x
 | [],x,_,z,hz=>by simp[y7] at hz
 | s :: l,x,h,z,hz=>by
   rw[jf] at h;by_cases h1:x<s.1
   · rw[if_pos h1] at h;cases h
   · rw[if_neg h1] at h;by_cases h2:s.2<18446744073709551615∧x<s.2+1
     · rw[if_pos h2] at h;cases h
     · rw[if_neg h2] at h;rcases List.mem_append.1 hz with hz | hz
       · rcases zct.1 hz with rfl | ⟨_,rfl⟩ <;> omega
       · exact zfq h z hz
def zj:List Iv→Nat→List Iv
 | [],_=>[]
 | s :: l,x=>if s.2<x then zj l x else s :: l
theorem znr:∀(l:List Iv),zj l 0=l
 | []=>rfl
 | s :: l=>by rw[zj,if_neg (by omega)]
theorem zjl:∀{l:List Iv} {x y:Nat},x≤y→zj (zj l x) y=zj l y
 | [],_,_,_=>rfl
 | s :: l,x,y,h=>by
   by_cases h1:s.2<x
   · have e:zj (s :: l) x=zj l x:=by rw[zj,if_pos h1]
     rw[e,zjl h,zj,if_pos (by omega)]
   · have e:zj (s :: l) x=s :: l:=by rw[zj,if_neg h1]
     rw[e]
theorem zfr:∀{l:List Iv} {x:Nat},Good l→Good (zj l x)
 | [],_,h=>h
 | s :: l,x,h=>by
   rw[zj];split
   · exact zfr h.tail
   · exact h
theorem zns:∀{l:List Iv} {x y:Nat},x≤y→mem (zj l x) y=mem l y
 | [],_,_,_=>rfl
 | s :: l,x,y,h=>by
   rw[zj];split
   · rename_i h1;rw[zns h,mem_cons];have:decide (y≤s.2)=false:=decide_eq_false (by omega);rw[this];simp
   · rfl
theorem zwk {l:List Iv} {x:Nat} {s:Iv} {r:List Iv} (h:zj l x=s :: r):x≤s.2:=by
 induction l with
 | nil=>cases h
 | cons t l ih=>
  rw[zj] at h;split at h
  · exact ih h
  · cases h;omega
theorem zjm:∀{l:List Iv} {x:Nat},Good l→∀z,x<z→(z∈y7 (zj l x)↔z∈y7 l)
 | [],_,_,_,_=>Iff.rfl
 | s :: l,x,hG,z,hz=>by
   rw[zj];split
   · rename_i h1;have:=hG.head;rw[zjm hG.tail z hz,zg6,List.mem_append,zct];constructor
     · exact .inr
     · rintro((rfl | ⟨_,rfl⟩) | h)
       · omega
       · omega
       · exact h
   · exact Iff.rfl
def zg8 (l:List Iv) (x:Nat):Bool:=match l with | []=>false | s :: _=>decide (s.1≤x)
theorem znt {l:List Iv} {x:Nat} (hG:Good l):zg8 (zj l x) x=mem l x:=by
 rw[←zns (Nat.le_refl x)];have hg:=zfr (x:=x) hG
 cases h:zj l x with
 | nil=>rfl
 | cons s r=>
  have h1:=zwk h;rw[h] at hg;show decide (s.1≤x)=mem (s :: r) x;rw[mem_cons];have h2:decide (x≤s.2)=true:=decide_eq_true h1;rw[h2,Bool.and_true];by_cases h3:s.1≤x
  · rw[decide_eq_true h3];rfl
  · rw[decide_eq_false h3]
    have h4:mem r x=false:=by
     rw[zdl];intro t ht htx;have:=hg.lower t ht;have:=hg.head;omega
    rw[h4];rfl
abbrev Pc:=Iv×(Bool×Bool)
def za2 (a b:List Iv) (x:Nat):Option Nat:=
 match jf a x,jf b x with
 | none,v=>v
 | some u,none=>some u
 | some u,some v=>if v<u then some v else some u
def zc8 (a b:List Iv) (x:Nat):Pc:=((x,match za2 (zj a x) (zj b x) x with | some y=>y - 1 | none=>18446744073709551615),(mem a x,mem b x))
def Chn (a b:List Iv):Nat→List Pc→Nat→Prop
 | x,[],y=>x=y
 | x,p :: ps,y=>p.1.1=x∧x≤p.1.2∧p.1.2<18446744073709551616∧x∈ve [a,b]∧(∀z,x≤z→z≤p.1.2→mem a z=p.2.1∧mem b z=p.2.2)∧Chn a b (p.1.2+1) ps y
theorem zjn {a b:List Iv}:∀{x:Nat} {ps:List Pc} {y:Nat} {p:Pc},Chn a b x ps y→p.1.1=y→y≤p.1.2→p.1.2<18446744073709551616→y∈ve [a,b]→(∀z,y≤z→z≤p.1.2→mem a z=p.2.1∧mem b z=p.2.2)→Chn a b x (ps++[p]) (p.1.2+1)
 | x,[],y,p,h,h1,h2,h3,h4,h5=>by
   obtain rfl:x=y:=h
   exact⟨h1,h2,h3,h4,h5,rfl⟩
 | x,q :: ps,y,p,h,h1,h2,h3,h4,h5=>by
   obtain⟨k1,k2,k3,k4,k5,k6⟩:=h;exact⟨k1,k2,k3,k4,k5,zjn k6 h1 h2 h3 h4 h5⟩
theorem zd0 {a b:List Iv}:∀{x:Nat} {ps:List Pc} {y:Nat} {p:Pc},Chn a b x (ps++[p]) y→Chn a b x ps p.1.1∧p.1.1≤p.1.2∧p.1.2<18446744073709551616∧p.1.1∈ve [a,b]∧(∀z,p.1.1≤z→z≤p.1.2→mem a z=p.2.1∧mem b z=p.2.2)∧y=p.1.2+1
 | x,[],y,p,h=>by
   obtain⟨rfl,h2,h3,h4,h5,h6⟩:=h
   exact⟨rfl,h2,h3,h4,h5,h6.symm⟩
 | x,q :: ps,y,p,h=>by
   obtain⟨k1,k2,k3,k4,k5,k6⟩:=h;obtain⟨l1,l2,l3,l4,l5,l6⟩:=zd0 k6;exact⟨⟨k1,k2,k3,k4,k5,l1⟩,l2,l3,l4,l5,l6⟩
theorem znu {a b:List Iv}:∀{x:Nat} {ps:List Pc} {y:Nat},Chn a b x ps y→Asc (ps.map (·.1.1))∧(∀z∈ps.map (·.1.1),x≤z∧z∈ve [a,b])
 | x,[],y,h=>⟨trivial,by simp⟩
 | x,q :: ps,y,h=>by
   obtain⟨k1,k2,k3,k4,k5,k6⟩:=h;obtain⟨h1,h2⟩:=znu k6;rw[List.map_cons];refine⟨zdo (fun z hz=>by have:=(h2 z hz).1;omega) h1,fun z hz=>?_⟩;rcases List.mem_cons.1 hz with rfl | hz
   · exact⟨by omega,by rw[k1];exact k4⟩
   · exact⟨by have:=(h2 z hz).1;omega,(h2 z hz).2⟩
theorem znv {a b:List Iv} {x:Nat} {ps:List Pc} {y:Nat} (h:Chn a b x ps y):ps.length≤2*a.length+2*b.length+1:=by
 obtain⟨h1,h2⟩:=znu h;have h3:=zdp h1 fun z hz=>(h2 z hz).2
 rw[List.length_map] at h3;have h4:=zi2 a;have h5:=zi2 b;simp[ve] at h3;omega
theorem znw {a b:List Iv} (ha:zk a) (hb:zk b) (ga:Good a) (gb:Good b) {ps:List Pc} {x:Nat} (h:Chn a b 0 ps x) (hx:x<18446744073709551616) (hm:x∈ve [a,b]):
 Chn a b 0 (ps++[zc8 a b x]) ((zc8 a b x).1.2+1)∧
 (∀y,za2 (zj a x) (zj b x) x=some y→x<y∧y<18446744073709551616∧(zc8 a b x).1.2+1=y∧y∈ve [a,b]):=by
 have hA:=zjm (x:=x) ga;have hB:=zjm (x:=x) gb
 have key:∀y,za2 (zj a x) (zj b x) x=some y→x<y∧(y∈y7 a∨y∈y7 b)∧∀z,z∈y7 a∨z∈y7 b→x<z→y≤z:=by
  intro y hy;unfold za2 at hy
  cases h1:jf (zj a x) x with
  | none=>
   have n1:=zfq h1;rw[h1] at hy;simp only at hy;obtain⟨s1,s2,s3⟩:=zg7 (zfr gb) hy;refine⟨s1,.inr ((hB y s1).1 s2),fun z hz hxz=>?_⟩;rcases hz with hz | hz
   · have:=n1 z ((hA z hxz).2 hz);omega
   · exact s3 z ((hB z hxz).2 hz) hxz
  | some u=>
   obtain⟨r1,r2,r3⟩:=zg7 (zfr ga) h1
   cases h2:jf (zj b x) x with
   | none=>
    have n2:=zfq h2;rw[h1,h2] at hy;simp only at hy;cases hy;refine⟨r1,.inl ((hA _ r1).1 r2),fun z hz hxz=>?_⟩;rcases hz with hz | hz
    · exact r3 z ((hA z hxz).2 hz) hxz
    · have:=n2 z ((hB z hxz).2 hz);omega
   | some v=>
    obtain⟨s1,s2,s3⟩:=zg7 (zfr gb) h2;rw[h1,h2] at hy;simp only at hy;by_cases hvu:v<u
    · rw[if_pos hvu] at hy;cases hy;refine⟨s1,.inr ((hB _ s1).1 s2),fun z hz hxz=>?_⟩;rcases hz with hz | hz
      · have:=r3 z ((hA z hxz).2 hz) hxz;omega
      · exact s3 z ((hB z hxz).2 hz) hxz
    · rw[if_neg hvu] at hy;cases hy;refine⟨r1,.inl ((hA _ r1).1 r2),fun z hz hxz=>?_⟩;rcases hz with hz | hz
      · exact r3 z ((hA z hxz).2 hz) hxz
      · have:=s3 z ((hB z hxz).2 hz) hxz;omega
 have none_case:za2 (zj a x) (zj b x) x=none→∀z,z∈y7 a∨z∈y7 b→¬x<z:=by
  intro hy z hz hxz;unfold za2 at hy
  cases h1:jf (zj a x) x with
  | none=>
   rw[h1] at hy;simp only at hy;rcases hz with hz | hz
   · have:=zfq h1 z ((hA z hxz).2 hz);omega
   · have:=zfq hy z ((hB z hxz).2 hz);omega
  | some u=>
   rw[h1] at hy
   cases h2:jf (zj b x) x with
   | none=>rw[h2] at hy;cases hy
   | some v=>rw[h2] at hy;simp only at hy;split at hy <;> cases hy
 have hlt:∀y,(y∈y7 a∨y∈y7 b)→y<18446744073709551616:=fun y hy=>by
  rcases hy with h | h
  · exact zfl ha y h
  · exact zfl hb y h
 have hall:∀y,(y∈y7 a∨y∈y7 b)→y∈ve [a,b]:=fun y hy=>(zg2 a b y).2 (.inr hy)
 cases hn:za2 (zj a x) (zj b x) x with
 | none=>
  have hp:zc8 a b x=((x,18446744073709551615),(mem a x,mem b x)):=by unfold zc8;rw[hn]
  rw[hp];have hno:=none_case hn;refine⟨zjn h rfl (by simp only;omega) (by simp only;omega) hm (fun z hz1 hz2=>?_),fun y hy=>by cases hy⟩;simp only at hz1 hz2 ⊢
  exact⟨zdr ha hz1 (by omega) fun y hy hyx=>hno y (.inl hy) hyx.1,zdr hb hz1 (by omega) fun y hy hyx=>hno y (.inr hy) hyx.1⟩
 | some y=>
  obtain⟨k1,k2,k3⟩:=key y hn;have hp:zc8 a b x=((x,y - 1),(mem a x,mem b x)):=by unfold zc8;rw[hn]
  have hy:=hlt y k2;rw[hp];refine⟨zjn h rfl (by simp only;omega) (by simp only;omega) hm (fun z hz1 hz2=>?_),fun u hu=>by cases hu;exact⟨k1,hy,by simp only;omega,hall y k2⟩⟩;simp only at hz1 hz2 ⊢;exact⟨zdr ha hz1 (by omega) fun u hu hux=>by have:=k3 u (.inl hu) hux.1;omega,zdr hb hz1 (by omega) fun u hu hux=>by have:=k3 u (.inr hu) hux.1;omega⟩
def zaf (g:Bool→Bool→Bool) (ps:List Pc):List Iv:=jx (ps.map fun p=>(p.1,g p.2.1 p.2.2)) []
theorem znx (g:Bool→Bool→Bool) (ps:List Pc) (p:Pc):zaf g (ps++[p])=if g p.2.1 p.2.2 then zbv (zaf g ps) p.1 else zaf g ps:=by
 unfold zaf;rw[List.map_append,zms]
 rfl
theorem zjo {g:Bool→Bool→Bool} {a b:List Iv}:∀{x:Nat} {ps:List Pc} {y:Nat} {out:List Iv},Chn a b x ps y→Good out→(∀t∈out,t.2<x)→zk out→(∀z,mem out z=(decide (z<x) && g (mem a z) (mem b z)))→
 Good (jx (ps.map fun p=>(p.1,g p.2.1 p.2.2)) out)∧(∀t∈jx (ps.map fun p=>(p.1,g p.2.1 p.2.2)) out,t.2<y)∧zk (jx (ps.map fun p=>(p.1,g p.2.1 p.2.2)) out)∧
  (∀z,mem (jx (ps.map fun p=>(p.1,g p.2.1 p.2.2)) out) z=(decide (z<y) && g (mem a z) (mem b z)))
 | x,[],y,out,hc,h1,h2,h3,h4=>by
   obtain rfl:x=y:=hc
   exact⟨h1,h2,h3,h4⟩
 | x,p :: ps,y,out,hc,h1,h2,h3,h4=>by
   obtain⟨k1,k2,k3,k4,k5,k6⟩:=hc;rw[List.map_cons,jx];have hz:∀z,x≤z→z≤p.1.2→g (mem a z) (mem b z)=g p.2.1 p.2.2:=fun z z1 z2=>by rw[(k5 z z1 z2).1,(k5 z z1 z2).2]
   cases hg:g p.2.1 p.2.2 with
   | false=>
    refine zjo k6 (by simpa using h1) (fun t ht=>by have:=h2 t (by simpa using ht);omega) (by simpa using h3) (fun z=>?_);simp only[Bool.false_eq_true,if_false];rw[h4];by_cases hzx:z<x
    · rw[decide_eq_true hzx,decide_eq_true (show z<p.1.2+1 by omega)]
    · rw[decide_eq_false hzx];by_cases hzy:z<p.1.2+1
      · rw[hz z (by omega) (by omega),hg];simp
      · rw[decide_eq_false hzy]
   | true=>
    obtain⟨q1,q2,q3⟩:=zix h1 (s:=p.1) (by omega) (by rw[k1];exact h2)
    have q4:zk (zbv out p.1):=by
     have:=zjd (ps:=[(p.1,true)]) (out:=out) (fun q hq=>by simp at hq;subst hq;exact⟨by simp only;omega,k3⟩) h3;simpa [jx] using this
    simp only[if_true];refine zjo k6 q1 (fun t ht=>by have:=q3 t ht;omega) q4 (fun z=>?_);rw[q2,h4];by_cases hzx:z<x
    · rw[decide_eq_true hzx,decide_eq_true (show z<p.1.2+1 by omega),decide_eq_false (show ¬p.1.1≤z by omega)];simp
    · rw[decide_eq_false hzx];by_cases hzy:z<p.1.2+1
      · rw[hz z (by omega) (by omega),hg,decide_eq_true hzy,decide_eq_true (show p.1.1≤z by omega),decide_eq_true (show z≤p.1.2 by omega)];rfl
      · rw[decide_eq_false hzy,decide_eq_false (show ¬z≤p.1.2 by omega)];simp
theorem zjp {g:Bool→Bool→Bool} {a b:List Iv} {ps:List Pc} {y:Nat} (h:Chn a b 0 ps y):Good (zaf g ps)∧(∀t∈zaf g ps,t.2<y)∧zk (zaf g ps)∧∀z,mem (zaf g ps) z=(decide (z<y) && g (mem a z) (mem b z)):=
 zjo h trivial (by simp) (by intro t ht;cases ht) (fun z=>by simp[mem])
theorem zny {g:Bool→Bool→Bool} {a b:List Iv} (ha:zk a) (hb:zk b) (h0:g false false=false) {ps:List Pc} (h:Chn a b 0 ps 18446744073709551616):zaf g ps=opL g a b:=by
 obtain⟨h1,_,_,h4⟩:=zjp (g:=g) h;refine zv8 ha hb h0 h1 fun x=>?_
 rw[h4];by_cases hx:x<18446744073709551616
 · rw[decide_eq_true hx];rfl
 · rw[decide_eq_false hx,zfk ha (by omega),zfk hb (by omega),h0];rfl
theorem znz (g:Bool→Bool→Bool) (ps:List Pc):(zaf g ps).length≤ps.length:=by
 have:=zmt (ps.map fun p=>(p.1,g p.2.1 p.2.2)) [];unfold zaf;simpa using this
theorem zg9 {l:List Iv} {x:Nat} (h:mem l x=true) (h0:x=0∨mem l (x - 1)=false):x∈l.map (·.1):=by
 obtain⟨s,hs,h1,h2⟩:=mem_iff.1 h;refine List.mem_map.2 ⟨s,hs,?_⟩;rcases h0 with rfl | h0
 · omega
 · have:=zdl.1 h0 s hs;omega
theorem zwl {l:List Iv} {x:Nat} (h:mem l x=false) (h0:x≠0) (h1:mem l (x - 1)=true):x∈l.map (fun s=>s.2+1):=by
 obtain⟨s,hs,h2,h3⟩:=mem_iff.1 h1;refine List.mem_map.2 ⟨s,hs,?_⟩;have:=zdl.1 h s hs;omega
theorem zn0:∀{l:List Iv},Good l→Asc (l.map (·.1))
 | [],_=>trivial
 | s :: l,h=>by
   rw[List.map_cons];refine zdo (fun x hx=>?_) (zn0 h.tail);obtain⟨t,ht,rfl⟩:=List.mem_map.1 hx;have:=h.lower t ht;have:=h.head;omega
theorem zfs {l:List Iv} (h:Good l) {s:Iv} (hs:s∈l):mem l s.1=true∧(s.1=0∨mem l (s.1 - 1)=false):=by
 refine⟨mem_iff.2 ⟨s,hs,Nat.le_refl _,h.ok s hs⟩,?_⟩;by_cases h0:s.1=0
 · exact .inl h0
 · refine .inr ?_;rw[zdl];intro t ht htx;obtain⟨i,hi,rfl⟩:=List.getElem_of_mem hs;obtain⟨j,hj,rfl⟩:=List.getElem_of_mem ht;have hgi:=zbj h i hi;have hgj:=zbj h j hj;rw[yw hi] at hgi;rw[yw hj] at hgj;rcases Nat.lt_trichotomy i j with e | e | e
   · have:=good_mono' h e hj;omega
   · subst e;omega
   · have:=good_mono' h e hi;omega
 where
 good_mono' {l:List Iv} (h:Good l) {i j:Nat} (hij:i<j) (hj:j<l.length):(l[i]'(Nat.lt_trans hij hj)).2+1<(l[j]).1:=by
  induction l generalizing i j with
  | nil=>simp at hj
  | cons s l ih=>
   cases j with
   | zero=>omega
   | succ j=>
    cases i with
    | zero=>exact h.lower _ (List.getElem_mem _)
    | succ i=>exact ih h.tail (by omega) (by simpa using hj)
theorem zn1 {L:List Iv} (h:Good L) {M:List Nat} (hM:∀x,mem L x=true→(x=0∨mem L (x - 1)=false)→x∈M):L.length≤M.length:=by
 have:=zdp (zn0 h) (M:=M) fun x hx=>by
  obtain⟨s,hs,rfl⟩:=List.mem_map.1 hx;obtain⟨h1,h2⟩:=zfs h hs;exact hM _ h1 h2
 simpa using this
theorem zjq {a b:List Iv} (ha:zk a) (hb:zk b):(opL gOr a b).length≤a.length+b.length:=by
 obtain⟨h1,h2,_⟩:=zbk (g:=gOr) ha hb rfl
 have:=zn1 h1 (M:=a.map (·.1)++b.map (·.1)) fun x hx h0=>by
  rw[h2] at hx;rw[h2] at h0;simp only[gOr,Bool.or_eq_true,Bool.or_eq_false_iff] at hx h0;rw[List.mem_append];rcases hx with hx | hx
  · exact .inl (zg9 hx (h0.imp id And.left))
  · exact .inr (zg9 hx (h0.imp id And.right))
 simpa using this
theorem zn2 {a b:List Iv} (ha:zk a) (hb:zk b):(opL js a b).length≤a.length+b.length:=by
 obtain⟨h1,h2,_⟩:=zbk (g:=js) ha hb rfl
 have:=zn1 h1 (M:=a.map (·.1)++b.map (fun s=>s.2+1)) fun x hx h0=>by
  rw[h2] at hx;rw[h2] at h0;simp only[js,Bool.and_eq_true,Bool.not_eq_true',Bool.and_eq_false_iff,Bool.not_eq_false'] at hx h0;rw[List.mem_append];by_cases hx0:x=0
  · exact .inl (zg9 hx.1 (.inl hx0))
  · rcases h0 with h0 | h0 | h0
    · exact absurd h0 hx0
    · exact .inl (zg9 hx.1 (.inr h0))
    · exact .inr (zwl hx.2 hx0 h0)
 simpa using this
end
section
open Go.RowKit
theorem zjr (x:Nat) (w:World):Calls Tryz.prog 295 #[.int .u64 x] w fun e w'=>e=.returned (.bool false)∧w'=w:=by
 go_enter Tryz.func295,Tryz.ntmps295;go_wp2;go_ret;exact⟨by simp,rfl⟩
theorem zjs:∀{L:List Nat},Asc L→∀i j,i<j→j<L.length→nth L i<nth L j
 | [],_,i,j,_,hj=>by simp at hj
 | a :: l,h,0,j+1,_,hj=>h.lower _ (by simp at hj;rw[show nth (a :: l) (j+1)=nth l j from rfl];simp[nth,hj])
 | a :: l,h,i+1,j+1,hij,hj=>zjs h.tail i j (by omega) (by simpa using hj)
set_option maxRecDepth 20000 in
theorem zwm (a:Option Addr) (n cap x:Nat) (L:List Nat) (w:World) (hU:U64s w a n cap L) (hA:Asc L) (hn:n≤1000000):
 Calls Tryz.prog 287 #[.slice a n cap,.int .u64 x] w fun e w'=>
  (∃(p:Nat) (z:Bool),e=.returned (.tuple #[.int .i64 (p:Int),.bool z])∧p≤n∧(∀t,t<p→nth L t<x)∧(∀t,p≤t→t<n→x≤nth L t))∧w'=w:=by
 have HA:=hid hA;have Hl:=hid hU.len;have HU:=hid hU;clear hU hA;go_enter Tryz.func287,Tryz.ntmps287;go_wp2;go_loopw [7,8,9] (fun i j _ wr=>∃p q:Nat,p≤q∧q≤n∧i=.int .i64 p∧j=.int .i64 q∧Hid (wr=w)∧Hid ((∀t,t<p→nth L t<x)∧∀t,q≤t→t<n→x≤nth L t)) (fun i j _ _=>(intOf j).toNat - (intOf i).toNat)
 case atStart=>exact⟨0,n,by omega,by omega,rfl,rfl,rfl,fun t ht=>by omega,fun t h1 h2=>by omega⟩
 case round=>
  obtain⟨p,q,hpq,hqn,rfl,rfl,hw,ht⟩:=hrel;have HUr:U64s wr a n cap L:=by rw[hw.out];exact HU.out
  by_cases hlt:p<q
  · obtain⟨bb,oo,rfl,hcell⟩:=HUr.cells (by omega);obtain⟨h,hh,hph,hhq⟩:∃h:Nat,((p:Int)+(q:Int)) / 2=(h:Int)∧p≤h∧h<q:=⟨(p+q) / 2,by omega,by omega,by omega⟩;have hhn:h<n:=by omega
    have hc1:=hcell h hhn;clear hcell;have Hms:=hid (fun t (ht:t<h)=>zjs HA.out t h ht (by rw[Hl.out];exact hhn));have Hms2:=hid (fun t (ht:h<t) (htl:t<n)=>zjs HA.out h t ht (by rw[Hl.out];exact htl));have hroom:=HUr.room;clear HUr;generalize hy:nth L h=y at*;have Hy:=hid hy;clear hy;by_cases hlx:y<x
    · have hci:ltU y x=true:=by simp[ltU,hlx]
      have Hr:=hid (show ∀t,t<h+1→nth L t<x from by
       intro t htt;by_cases e:t=h
       · subst e;rw[Hy.out];exact hlx
       · have h1:=Hms.out t (by omega);omega)
      clear hlx;go_wp2_with (first | (go_at_call 283;refine(qw _ _ _).mono ?_;rintro e w1 ⟨rfl,rfl⟩));go_roundw
      case rel=>exact⟨h+1,q,by omega,by omega,by go_num,rfl,hw,Hr.out,ht.out.2⟩
      case measure=>simp[intOf];omega
    · have hci:ltU y x=false:=by simp[ltU];omega
      have Hr:=hid (show ∀t,h≤t→t<n→x≤nth L t from by
       intro t htt htn;by_cases e:t=h
       · subst e;rw[Hy.out];omega
       · have h1:=Hms2.out t (by omega) htn;omega)
      clear hlx;go_wp2_with (first | (go_at_call 283;refine(qw _ _ _).mono ?_;rintro e w1 ⟨rfl,rfl⟩));go_roundw
      case rel=>exact⟨p,h,by omega,by omega,rfl,rfl,hw,ht.out.1,Hr.out⟩
      case measure=>simp[intOf];omega
  · obtain rfl:p=q:=by omega
    by_cases hpn:p<n
    · obtain⟨bb,oo,rfl,hcell⟩:=HUr.cells (by omega);have hc1:=hcell p hpn;have hroom:=HUr.room;clear hcell HUr;generalize hy:nth L p=y at*;clear hy;have hd:decide (p<n)=true:=by rw[decide_eq_true_iff];exact hpn
      by_cases hyx:y=x
      · have hci:((y:Int) == (x:Int))=true:=by simp[hyx]
        go_wp2_with (first | (go_at_call 295;refine(zjr _ _).mono ?_;rintro e w1 ⟨rfl,rfl⟩));go_ret2;exact⟨⟨p,_,rfl,hqn,ht.out.1,ht.out.2⟩,hw.out⟩
      · have hci:((y:Int) == (x:Int))=false:=by simp;omega
        go_wp2_with (first | (go_at_call 295;refine(zjr _ _).mono ?_;rintro e w1 ⟨rfl,rfl⟩));go_ret2;exact⟨⟨p,_,rfl,hqn,ht.out.1,ht.out.2⟩,hw.out⟩
    · have hd:decide (p<n)=false:=by rw[decide_eq_false_iff_not];exact hpn
      clear HUr;go_wp2_with (first | (go_at_call 295;refine(zjr _ _).mono ?_;rintro e w1 ⟨rfl,rfl⟩));go_ret2;exact⟨⟨p,_,rfl,hqn,ht.out.1,ht.out.2⟩,hw.out⟩
theorem zn3:∀{L:List Nat} {x p:Nat},Asc L→x∉L→p≤L.length→(∀t,t<p→nth L t<x)→(∀t,p≤t→t<L.length→x≤nth L t)→kh L x=L.take p++x :: L.drop p
 | [],x,p,_,_,hp,_,_=>by simp[kh]
 | a :: l,x,0,_,hx,_,_,h2=>by
   have h3:x≤a:=h2 0 (Nat.le_refl _) (by simp);have h4:x≠a:=fun e=>hx (by simp[e])
   rw[kh,if_pos (by omega)];rfl
 | a :: l,x,p+1,h,hx,hp,h1,h2=>by
   have h3:a<x:=h1 0 (by omega);rw[kh,if_neg (by omega),if_neg (by omega),zn3 (p:=p) h.tail (fun hm=>hx (by simp[hm])) (by simpa using hp) (fun t ht=>h1 (t+1) (by omega)) (fun t h4 h5=>h2 (t+1) (by omega) (by simpa using h5))]
   rfl
def zew (base:Nat) (L:List Iv) (e:Ending) (w':World):Prop:=∃v,e=.returned v∧w'.ownsRow base 89 2 v L.length (ivC L)
abbrev zbm (e:Ent) (s:Value):Value:=.agg #[.int .u64 ((e.1:Nat):Int),.int .u64 ((e.2.1:Nat):Int),s]
def zha (base:Nat) (o:Option Ent) (x:Ending) (w':World):Prop:=
 match o with
 | none=>x=.returned (.tuple #[zbm (0,0,[]) (.slice none 0 0),.bool false])
 | some e=>∃s,x=.returned (.tuple #[zbm e s,.bool true])∧w'.ownsRow base 89 2 s e.2.2.length (ivC e.2.2)
structure VecFits (v:Vec):Prop where
 len:v.length≤300
 holes:∀e∈v,e.2.2.length≤500
theorem zjt {w:World} {g:Nat} {s:Iv} {T:TypeId} (h:w.heap[g]?=some (.cells #[.int .u64 ((s.1:Nat):Int),.int .u64 ((s.2:Nat):Int)] T)) (hs:s.1<18446744073709551616∧s.2<18446744073709551616):Ivs w (some ⟨g,0,none⟩) 1 1 [s]:=by
 refine⟨rfl,fun t ht=>by simp at ht;subst ht;exact hs,Nat.le_refl _,by omega,(by intro e;cases e),fun _=>⟨g,0,rfl,fun i hi=>?_⟩⟩;obtain rfl:i=0:=by omega
 exact⟨by simp[World.cell?,h,za],by simp[World.cell?,h,za]⟩
theorem jz {w:World} {base sz n:Nat} {e:TypeId} {v:Value} {xs:List Value} (ho:w.ownsRow base e sz v n xs):∃a c,v=.slice a n c:=by
 rcases ho.2 with ⟨rfl,rfl⟩ | ⟨g,cap,cur,rfl,_⟩
 · exact⟨_,_,rfl⟩
 · exact⟨_,_,rfl⟩
theorem zn4 {e:Ent} (h:zk e.2.2) (hm:e.2.1<18446744073709551616):(jo e).length≤1+e.2.2.length:=by
 have:=zn2 (a:=[(0,e.2.1)]) (b:=e.2.2) (zet (by omega) hm) h;simpa [jo] using this
theorem zwn {r:Nat} {L:List Iv} {f:Ent} (h:zk L) (hf:ofE r L=some f):f.2.2.length≤1+L.length:=by
 unfold ofE at hf;split at hf
 · cases hf
 · cases hf;have:=zn2 (a:=[(0,v7 L)]) (b:=L) (zet (by omega) (zna h)) h;simpa using this
end
section
abbrev LtV (v:Vec):Prop:=∀e∈v,LtE e
theorem zju {e:Ent} (h:LtE e) (c:Nat):mem (jo e) c=zcd e c:=(zc7 h).2.1 c
def yb (v:Vec) (r:Nat):List Iv:=match v.find? (fun e=>decide (e.1=r)) with | some e=>jo e | none=>[]
theorem zft {v:Vec} (hl:LtV v) (ha:v.Pairwise vg) (r c:Nat):mem (yb v r) c=jp v r c:=by
 unfold yb
 cases hf:v.find? (fun e=>decide (e.1=r)) with
 | none=>
  have hn:=List.find?_eq_none.1 hf;rw[zb9]
  symm
  rw[←Bool.not_eq_true,zbl];rintro⟨e,he,hr,_⟩
  exact hn e he (decide_eq_true hr)
 | some e=>
  have he:=List.mem_of_find?_eq_some hf;have hr:e.1=r:=by have:=List.find?_some hf;exact of_decide_eq_true this
  simp only;rw[zju (hl e he),Bool.eq_iff_iff,zbl];constructor
  · intro h;exact⟨e,he,hr,h⟩
  · rintro⟨f,hf2,hr2,h⟩;rw[zg5 ha he hf2 (by omega)];exact h
theorem zce {v:Vec} (hl:LtV v) (r:Nat):zk (yb v r):=by
 unfold yb
 cases hf:v.find? (fun e=>decide (e.1=r)) with
 | none=>intro t ht;cases ht
 | some e=>exact(zc7 (hl e (List.mem_of_find?_eq_some hf))).2.2
structure IsOf (r:Nat) (L:List Iv) (o:Option Ent):Prop where
 none:L=[]→o=none
 some:L≠[]→∃e,o=some e∧e.1=r∧CanE e∧zk e.2.2∧e.2.1<18446744073709551616∧∀c,zcd e c=mem L c
theorem zfu {r:Nat} {L:List Iv} (hG:Good L) (hl:zk L):IsOf r L (ofE r L):=by
 refine⟨fun h=>by unfold ofE;rw[if_pos h],fun h=>?_⟩;obtain⟨e,h1,h2,h3,h4,h5,h6⟩:=zwa (r:=r) hG hl h;exact⟨e,h1,h2,h3,h4,h5,h6⟩
theorem zwo {S:List Nat} (f:Nat→Option Ent) (hS:Asc S) (hf:∀r∈S,∀e,f r=some e→e.1=r∧CanE e∧LtE e):
 CanV (S.filterMap f)∧LtV (S.filterMap f)∧∀r c,jp (S.filterMap f) r c=true↔∃e,r∈S∧f r=some e∧zcd e c=true:=by
 refine⟨⟨?_,fun e he=>?_⟩,fun e he=>?_,fun r c=>?_⟩
 · induction S with
   | nil=>exact List.Pairwise.nil
   | cons a S ih=>
    have ih':=ih hS.tail (fun r hr=>hf r (List.mem_cons_of_mem _ hr))
    cases h:f a with
    | none=>rw[List.filterMap_cons_none h];exact ih'
    | some e=>
     rw[List.filterMap_cons_some h];refine List.pairwise_cons.2 ⟨fun g hg=>?_,ih'⟩;obtain⟨b,hb,hb2⟩:=List.mem_filterMap.1 hg;have e1:=(hf a (List.mem_cons_self ..) e h).1;have e2:=(hf b (List.mem_cons_of_mem _ hb) g hb2).1;have:=hS.lower b hb;unfold vg;omega
 · obtain⟨b,hb,hb2⟩:=List.mem_filterMap.1 he;exact(hf b hb e hb2).2.1
 · obtain⟨b,hb,hb2⟩:=List.mem_filterMap.1 he;exact(hf b hb e hb2).2.2
 · rw[zbl];constructor
   · rintro⟨e,he,hr,hk⟩;obtain⟨b,hb,hb2⟩:=List.mem_filterMap.1 he;have:=(hf b hb e hb2).1;subst hr;exact⟨e,by rw[this];exact hb,by rw[this];exact hb2,hk⟩
   · rintro⟨e,hr,he,hk⟩;exact⟨e,List.mem_filterMap.2 ⟨r,hr,he⟩,(hf r hr e he).1,hk⟩
def za3 (a b:Vec):List Nat:=zc5 (a.map (·.1)++b.map (·.1))
def doV (g:Bool→Bool→Bool) (a b:Vec):Vec:=(za3 a b).filterMap fun r=>ofE r (opL g (yb a r) (yb b r))
theorem zn5 {v:Vec} {r:Nat} (h:r∉v.map (·.1)) (c:Nat):jp v r c=false:=by
 rw[←Bool.not_eq_true,zbl];rintro⟨e,he,hr,_⟩;exact h (List.mem_map.2 ⟨e,he,hr⟩)
theorem zjv {g:Bool→Bool→Bool} (h0:g false false=false) {a b:Vec} (ha:LtV a) (hb:LtV b) (pa:a.Pairwise vg) (pb:b.Pairwise vg):
 CanV (doV g a b)∧LtV (doV g a b)∧∀r c,jp (doV g a b) r c=g (jp a r c) (jp b r c):=by
 have hop:=fun r=>zbk (g:=g) (zce ha r) (zce hb r) h0
 have hreps:∀r,r∈za3 a b↔r∈a.map (·.1)∨r∈b.map (·.1):=fun r=>by unfold za3;rw[zc6,List.mem_append]
 obtain⟨h1,h2,h3⟩:=zwo (S:=za3 a b) (fun r=>ofE r (opL g (yb a r) (yb b r))) (zes _) (fun r hr e he=>by
  have hi:=zfu (r:=r) (hop r).1 (hop r).2.2;by_cases hn:opL g (yb a r) (yb b r)=[]
  · rw[hi.none hn] at he;cases he
  · obtain⟨e',h1,h2,h3,h4,h5,_⟩:=hi.some hn;rw[h1] at he;cases he;refine⟨h2,h3,⟨?_,h5,h4⟩⟩;rw[h2];rcases(hreps r).1 hr with h | h
    · obtain⟨f,hf,rfl⟩:=List.mem_map.1 h;exact(ha f hf).rep
    · obtain⟨f,hf,rfl⟩:=List.mem_map.1 h;exact(hb f hf).rep)
 refine⟨h1,h2,fun r c=>?_⟩;rw[Bool.eq_iff_iff];refine(h3 r c).trans ?_;have hi:=zfu (r:=r) (hop r).1 (hop r).2.2;have hm:=(hop r).2.1 c;rw[zft ha pa,zft hb pb] at hm;constructor
 · rintro⟨e,hr,he,hk⟩;by_cases hn:opL g (yb a r) (yb b r)=[]
   · rw[hi.none hn] at he;cases he
   · obtain⟨e',k1,_,_,_,_,k6⟩:=hi.some hn;rw[k1] at he;cases he;rw[←hm,←k6];exact hk
 · intro hg
   have hne:opL g (yb a r) (yb b r)≠[]:=by
    intro h;rw[h,zb9] at hm;rw[←hm] at hg;cases hg
   obtain⟨e',k1,_,_,_,_,k6⟩:=hi.some hne;refine⟨e',?_,k1,by rw[k6,hm];exact hg⟩;rw[hreps];refine Decidable.by_contra fun hr=>?_
   rw[not_or] at hr;rw[zn5 hr.1,zn5 hr.2,h0] at hg;cases hg
def zcu (e:Ent):Option Ent:=ofE e.1 (jo e)
def kw (v:Vec):Vec:=v.filterMap zcu
theorem zn6 {e:Ent} (h:LtE e):IsOf e.1 (jo e) (zcu e):=zfu (zc7 h).1 (zc7 h).2.2
theorem zd1 {e f:Ent} (h:LtE e) (hf:zcu e=some f):f.1=e.1∧CanE f∧LtE f∧∀c,zcd f c=zcd e c:=by
 have hi:=zn6 h;by_cases hn:jo e=[]
 · rw[hi.none hn] at hf;cases hf
 · obtain⟨e',k1,k2,k3,k4,k5,k6⟩:=hi.some hn;rw[k1] at hf;cases hf;exact⟨k2,k3,⟨by rw[k2];exact h.rep,k5,k4⟩,fun c=>by rw[k6,zju h]⟩
theorem zn7 {e:Ent} (h:LtE e) (hf:zcu e=none) (c:Nat):zcd e c=false:=by
 have hi:=zn6 h;by_cases hn:jo e=[]
 · rw[←zju h,hn];rfl
 · obtain⟨e',k1,_⟩:=hi.some hn;rw[k1] at hf;cases hf
theorem zwp {e:Ent} (h:LtE e) (hc:CanE e):zcu e=some e:=by
 cases hf:zcu e with
 | none=>have:=zn7 h hf e.2.1;rw[zno hc] at this;cases this
 | some f=>
  obtain⟨h1,h2,_,h4⟩:=zd1 h hf;rw[znb hc h2 h1.symm fun c=>(h4 c).symm]
theorem zhb {v:Vec} (hl:LtV v) (ha:v.Pairwise vg):CanV (kw v)∧LtV (kw v)∧∀r c,jp (kw v) r c=jp v r c:=by
 refine⟨⟨?_,fun f hf=>?_⟩,fun f hf=>?_,fun r c=>?_⟩
 · unfold kw
   induction v with
   | nil=>exact List.Pairwise.nil
   | cons e v ih=>
    obtain⟨p,q⟩:=List.pairwise_cons.1 ha;have ih':=ih (fun x hx=>hl x (List.mem_cons_of_mem _ hx)) q
    cases h:zcu e with
    | none=>rw[List.filterMap_cons_none h];exact ih'
    | some f=>
     rw[List.filterMap_cons_some h];refine List.pairwise_cons.2 ⟨fun g hg=>?_,ih'⟩;obtain⟨b,hb,hb2⟩:=List.mem_filterMap.1 hg;have e1:=(zd1 (hl e (List.mem_cons_self ..)) h).1;have e2:=(zd1 (hl b (List.mem_cons_of_mem _ hb)) hb2).1;have:=p b hb;unfold vg at this ⊢;omega
 · obtain⟨b,hb,hb2⟩:=List.mem_filterMap.1 hf;exact(zd1 (hl b hb) hb2).2.1
 · obtain⟨b,hb,hb2⟩:=List.mem_filterMap.1 hf;exact(zd1 (hl b hb) hb2).2.2.1
 · rw[Bool.eq_iff_iff,zbl,zbl];constructor
   · rintro⟨f,hf,hr,hk⟩;obtain⟨b,hb,hb2⟩:=List.mem_filterMap.1 hf;obtain⟨e1,_,_,e4⟩:=zd1 (hl b hb) hb2;exact⟨b,hb,by omega,by rw[←e4];exact hk⟩
   · rintro⟨b,hb,hr,hk⟩
     cases h:zcu b with
     | none=>rw[zn7 (hl b hb) h] at hk;cases hk
     | some f=>
      obtain⟨e1,_,_,e4⟩:=zd1 (hl b hb) h;exact⟨f,List.mem_filterMap.2 ⟨b,hb,h⟩,by omega,by rw[e4];exact hk⟩
theorem zjw {v:Vec} (hl:LtV v) (hc:CanV v):kw v=v:=by
 have h:=zhb hl hc.asc;exact znq h.1 hc h.2.2
structure LtF (f:Frg):Prop where
 items:zk f.1
 vec:LtV f.2
 asc:f.2.Pairwise vg
abbrev LtK (k:Kno):Prop:=∀f∈k,LtF f
def atK (k:Kno) (x:Nat):Vec:=k.foldl (fun v f=>if mem f.1 x=true then doV gOr v f.2 else v) []
theorem zwq:CanV []:=⟨List.Pairwise.nil,fun e he=>by cases he⟩
theorem zjx {x:Nat}:∀{k:Kno} {v:Vec},LtK k→CanV v→LtV v→
 CanV (k.foldl (fun v f=>if mem f.1 x=true then doV gOr v f.2 else v) v)∧LtV (k.foldl (fun v f=>if mem f.1 x=true then doV gOr v f.2 else v) v)∧
  ∀r c,jp (k.foldl (fun v f=>if mem f.1 x=true then doV gOr v f.2 else v) v) r c=(jp v r c || zak k x r c)
 | [],v,_,hc,hl=>⟨hc,hl,fun r c=>by simp[zak]⟩
 | f :: k,v,hk,hc,hl=>by
   have hf:=hk f (List.mem_cons_self ..);rw[List.foldl_cons];have e:∀r c,zak (f :: k) x r c=((mem f.1 x && jp f.2 r c) || zak k x r c):=fun r c=>rfl
   by_cases hx:mem f.1 x=true
   · obtain⟨h1,h2,h3⟩:=zjv (g:=gOr) rfl hl hf.vec hc.asc hf.asc;rw[if_pos hx];obtain⟨k1,k2,k3⟩:=zjx (k:=k) (v:=doV gOr v f.2) (fun g hg=>hk g (List.mem_cons_of_mem _ hg)) h1 h2;refine⟨k1,k2,fun r c=>?_⟩;rw[k3,h3,e,hx];simp[gOr,Bool.or_assoc]
   · have hx':mem f.1 x=false:=by simpa using hx
     rw[if_neg hx];obtain⟨k1,k2,k3⟩:=zjx (k:=k) (v:=v) (fun g hg=>hk g (List.mem_cons_of_mem _ hg)) hc hl;refine⟨k1,k2,fun r c=>?_⟩;rw[k3,e,hx'];simp
theorem zcv {k:Kno} (hk:LtK k) (x:Nat):CanV (atK k x)∧LtV (atK k x)∧∀r c,jp (atK k x) r c=zak k x r c:=by
 obtain⟨h1,h2,h3⟩:=zjx (x:=x) (v:=[]) hk zwq (fun e he=>by cases he);exact⟨h1,h2,fun r c=>by unfold atK;rw[h3];rfl⟩
