/- Walks and laws, joined: Wb07. -/
import Derived.Test.YtdnjfnofjaoajaaGreatDoorWb06
set_option linter.unusedVariables false
set_option maxHeartbeats 16000000
namespace Go.Proofs.YtdnjfnofjaoajaaGreatDoor
open Lib (hid)
section
def jp:List Iv→Nat→Option Nat
 | [],_=>none
 | s :: l,x=>if x<s.1 then some s.1 else if s.2<18446744073709551615∧x<s.2+1 then some (s.2+1) else jp l x
theorem zj4 (s:Iv) (l:List Iv):yh (s :: l)=bnd s++yh l:=rfl
theorem zd8 {s:Iv} {z:Nat}:z∈bnd s↔z=s.1∨(s.2<18446744073709551615∧z=s.2+1):=by
 unfold bnd;split
 · rename_i h;simp[h]
 · rename_i h;simp[h]
theorem z0n {s:Iv} {l:List Iv} (h:Good (s :: l)):∀z∈yh l,s.2+1<z:=by
 intro z hz;obtain⟨t,ht,hz⟩:=List.mem_flatMap.1 hz;have h1:=h.lower t ht;have h2:=h.tail.ok t ht;rcases zd8.1 hz with rfl | ⟨_,rfl⟩ <;> omega
theorem zj5:∀{l:List Iv} {x y:Nat},Good l→jp l x=some y→x<y∧y∈yh l∧∀z∈yh l,x<z→y≤z
 | [],x,y,_,h=>by simp[jp] at h
 | s :: l,x,y,hG,h=>by
   have hs:=hG.head;have hge:=z0n hG;rw[jp] at h;by_cases h1:x<s.1
   · rw[if_pos h1] at h;cases h;refine⟨h1,by rw[zj4];exact List.mem_append_left _ (zd8.2 (.inl rfl)),fun z hz _=>?_⟩;rcases List.mem_append.1 hz with hz | hz
     · rcases zd8.1 hz with rfl | ⟨_,rfl⟩ <;> omega
     · have:=hge z hz;omega
   · rw[if_neg h1] at h;by_cases h2:s.2<18446744073709551615∧x<s.2+1
     · rw[if_pos h2] at h;cases h;refine⟨h2.2,by rw[zj4];exact List.mem_append_left _ (zd8.2 (.inr ⟨h2.1,rfl⟩)),fun z hz hx=>?_⟩;rcases List.mem_append.1 hz with hz | hz
       · rcases zd8.1 hz with rfl | ⟨_,rfl⟩ <;> omega
       · have:=hge z hz;omega
     · rw[if_neg h2] at h;obtain⟨k1,k2,k3⟩:=zj5 hG.tail h;refine⟨k1,by rw[zj4];exact List.mem_append_right _ k2,fun z hz hx=>?_⟩;rcases List.mem_append.1 hz with hz | hz
       · rcases zd8.1 hz with rfl | ⟨_,rfl⟩ <;> omega
       · exact k3 z hz hx
theorem zhs:∀{l:List Iv} {x:Nat},jp l x=none→∀z∈yh l,z≤x
 | [],x,_,z,hz=>by simp[yh] at hz
 | s :: l,x,h,z,hz=>by
   rw[jp] at h;by_cases h1:x<s.1
   · rw[if_pos h1] at h;cases h
   · rw[if_neg h1] at h;by_cases h2:s.2<18446744073709551615∧x<s.2+1
     · rw[if_pos h2] at h;cases h
     · rw[if_neg h2] at h;rcases List.mem_append.1 hz with hz | hz
       · rcases zd8.1 hz with rfl | ⟨_,rfl⟩ <;> omega
       · exact zhs h z hz
def zy:List Iv→Nat→List Iv
 | [],_=>[]
 | s :: l,x=>if s.2<x then zy l x else s :: l
theorem zq4:∀(l:List Iv),zy l 0=l
 | []=>rfl
 | s :: l=>by rw[zy,if_neg (by omega)]
theorem zm3:∀{l:List Iv} {x y:Nat},x≤y→zy (zy l x) y=zy l y
 | [],_,_,_=>rfl
 | s :: l,x,y,h=>by
   by_cases h1:s.2<x
   · have e:zy (s :: l) x=zy l x:=by rw[zy,if_pos h1]
     rw[e,zm3 h,zy,if_pos (by omega)]
   · have e:zy (s :: l) x=s :: l:=by rw[zy,if_neg h1]
     rw[e]
theorem zht:∀{l:List Iv} {x:Nat},Good l→Good (zy l x)
 | [],_,h=>h
 | s :: l,x,h=>by
   rw[zy];split
   · exact zht h.tail
   · exact h
theorem zq5:∀{l:List Iv} {x y:Nat},x≤y→mem (zy l x) y=mem l y
 | [],_,_,_=>rfl
 | s :: l,x,y,h=>by
   rw[zy];split
   · rename_i h1;rw[zq5 h,mem_cons];have:decide (y≤s.2)=false:=decide_eq_false (by omega);rw[this];simp
   · rfl
theorem z0o {l:List Iv} {x:Nat} {s:Iv} {r:List Iv} (h:zy l x=s :: r):x≤s.2:=by
 induction l with
 | nil=>cases h
 | cons t l ih=>
  rw[zy] at h;split at h
  · exact ih h
  · cases h;omega
theorem zm4:∀{l:List Iv} {x:Nat},Good l→∀z,x<z→(z∈yh (zy l x)↔z∈yh l)
 | [],_,_,_,_=>Iff.rfl
 | s :: l,x,hG,z,hz=>by
   rw[zy];split
   · rename_i h1;have:=hG.head;rw[zm4 hG.tail z hz,zj4,List.mem_append,zd8];constructor
     · exact .inr
     · rintro((rfl | ⟨_,rfl⟩) | h)
       · omega
       · omega
       · exact h
   · exact Iff.rfl
def zj6 (l:List Iv) (x:Nat):Bool:=match l with | []=>false | s :: _=>decide (s.1≤x)
theorem zq6 {l:List Iv} {x:Nat} (hG:Good l):zj6 (zy l x) x=mem l x:=by
 rw[←zq5 (Nat.le_refl x)];have hg:=zht (x:=x) hG
 cases h:zy l x with
 | nil=>rfl
 | cons s r=>
  have h1:=z0o h;rw[h] at hg;show decide (s.1≤x)=mem (s :: r) x;rw[mem_cons];have h2:decide (x≤s.2)=true:=decide_eq_true h1;rw[h2,Bool.and_true];by_cases h3:s.1≤x
  · rw[decide_eq_true h3];rfl
  · rw[decide_eq_false h3]
    have h4:mem r x=false:=by
     rw[zfj];intro t ht htx;have:=hg.lower t ht;have:=hg.head;omega
    rw[h4];rfl
abbrev Pc:=Iv×(Bool×Bool)
def zb0 (a b:List Iv) (x:Nat):Option Nat:=
 match jp a x,jp b x with
 | none,v=>v
 | some u,none=>some u
 | some u,some v=>if v<u then some v else some u
def zeu (a b:List Iv) (x:Nat):Pc:=((x,match zb0 (zy a x) (zy b x) x with | some y=>y - 1 | none=>18446744073709551615),(mem a x,mem b x))
def Chn (a b:List Iv):Nat→List Pc→Nat→Prop
 | x,[],y=>x=y
 | x,p :: ps,y=>p.1.1=x∧x≤p.1.2∧p.1.2<18446744073709551616∧x∈qd [a,b]∧(∀z,x≤z→z≤p.1.2→mem a z=p.2.1∧mem b z=p.2.2)∧Chn a b (p.1.2+1) ps y
theorem zm5 {a b:List Iv}:∀{x:Nat} {ps:List Pc} {y:Nat} {p:Pc},Chn a b x ps y→p.1.1=y→y≤p.1.2→p.1.2<18446744073709551616→y∈qd [a,b]→(∀z,y≤z→z≤p.1.2→mem a z=p.2.1∧mem b z=p.2.2)→Chn a b x (ps++[p]) (p.1.2+1)
 | x,[],y,p,h,h1,h2,h3,h4,h5=>by
   obtain rfl:x=y:=h
   exact⟨h1,h2,h3,h4,h5,rfl⟩
 | x,q :: ps,y,p,h,h1,h2,h3,h4,h5=>by
   obtain⟨k1,k2,k3,k4,k5,k6⟩:=h;exact⟨k1,k2,k3,k4,k5,zm5 k6 h1 h2 h3 h4 h5⟩
theorem zev {a b:List Iv}:∀{x:Nat} {ps:List Pc} {y:Nat} {p:Pc},Chn a b x (ps++[p]) y→Chn a b x ps p.1.1∧p.1.1≤p.1.2∧p.1.2<18446744073709551616∧p.1.1∈qd [a,b]∧(∀z,p.1.1≤z→z≤p.1.2→mem a z=p.2.1∧mem b z=p.2.2)∧y=p.1.2+1
 | x,[],y,p,h=>by
   obtain⟨rfl,h2,h3,h4,h5,h6⟩:=h
   exact⟨rfl,h2,h3,h4,h5,h6.symm⟩
 | x,q :: ps,y,p,h=>by
   obtain⟨k1,k2,k3,k4,k5,k6⟩:=h;obtain⟨l1,l2,l3,l4,l5,l6⟩:=zev k6;exact⟨⟨k1,k2,k3,k4,k5,l1⟩,l2,l3,l4,l5,l6⟩
theorem zq7 {a b:List Iv}:∀{x:Nat} {ps:List Pc} {y:Nat},Chn a b x ps y→Asc (ps.map (·.1.1))∧(∀z∈ps.map (·.1.1),x≤z∧z∈qd [a,b])
 | x,[],y,h=>⟨trivial,by simp⟩
 | x,q :: ps,y,h=>by
   obtain⟨k1,k2,k3,k4,k5,k6⟩:=h;obtain⟨h1,h2⟩:=zq7 k6;rw[List.map_cons];refine⟨zd0 (fun z hz=>by have:=(h2 z hz).1;omega) h1,fun z hz=>?_⟩;rcases List.mem_cons.1 hz with rfl | hz
   · exact⟨by omega,by rw[k1];exact k4⟩
   · exact⟨by have:=(h2 z hz).1;omega,(h2 z hz).2⟩
theorem zq8 {a b:List Iv} {x:Nat} {ps:List Pc} {y:Nat} (h:Chn a b x ps y):ps.length≤2*a.length+2*b.length+1:=by
 obtain⟨h1,h2⟩:=zq7 h;have h3:=zcz h1 fun z hz=>(h2 z hz).2
 rw[List.length_map] at h3;have h4:=zfl a;have h5:=zfl b;simp[qd] at h3;omega
theorem zq9 {a b:List Iv} (ha:zq a) (hb:zq b) (ga:Good a) (gb:Good b) {ps:List Pc} {x:Nat} (h:Chn a b 0 ps x) (hx:x<18446744073709551616) (hm:x∈qd [a,b]):
 Chn a b 0 (ps++[zeu a b x]) ((zeu a b x).1.2+1)∧
 (∀y,zb0 (zy a x) (zy b x) x=some y→x<y∧y<18446744073709551616∧(zeu a b x).1.2+1=y∧y∈qd [a,b]):=by
 have hA:=zm4 (x:=x) ga;have hB:=zm4 (x:=x) gb
 have key:∀y,zb0 (zy a x) (zy b x) x=some y→x<y∧(y∈yh a∨y∈yh b)∧∀z,z∈yh a∨z∈yh b→x<z→y≤z:=by
  intro y hy;unfold zb0 at hy
  cases h1:jp (zy a x) x with
  | none=>
   have n1:=zhs h1;rw[h1] at hy;simp only at hy;obtain⟨s1,s2,s3⟩:=zj5 (zht gb) hy;refine⟨s1,.inr ((hB y s1).1 s2),fun z hz hxz=>?_⟩;rcases hz with hz | hz
   · have:=n1 z ((hA z hxz).2 hz);omega
   · exact s3 z ((hB z hxz).2 hz) hxz
  | some u=>
   obtain⟨r1,r2,r3⟩:=zj5 (zht ga) h1
   cases h2:jp (zy b x) x with
   | none=>
    have n2:=zhs h2;rw[h1,h2] at hy;simp only at hy;cases hy;refine⟨r1,.inl ((hA _ r1).1 r2),fun z hz hxz=>?_⟩;rcases hz with hz | hz
    · exact r3 z ((hA z hxz).2 hz) hxz
    · have:=n2 z ((hB z hxz).2 hz);omega
   | some v=>
    obtain⟨s1,s2,s3⟩:=zj5 (zht gb) h2;rw[h1,h2] at hy;simp only at hy;by_cases hvu:v<u
    · rw[if_pos hvu] at hy;cases hy;refine⟨s1,.inr ((hB _ s1).1 s2),fun z hz hxz=>?_⟩;rcases hz with hz | hz
      · have:=r3 z ((hA z hxz).2 hz) hxz;omega
      · exact s3 z ((hB z hxz).2 hz) hxz
    · rw[if_neg hvu] at hy;cases hy;refine⟨r1,.inl ((hA _ r1).1 r2),fun z hz hxz=>?_⟩;rcases hz with hz | hz
      · exact r3 z ((hA z hxz).2 hz) hxz
      · have:=s3 z ((hB z hxz).2 hz) hxz;omega
 have none_case:zb0 (zy a x) (zy b x) x=none→∀z,z∈yh a∨z∈yh b→¬x<z:=by
  intro hy z hz hxz;unfold zb0 at hy
  cases h1:jp (zy a x) x with
  | none=>
   rw[h1] at hy;simp only at hy;rcases hz with hz | hz
   · have:=zhs h1 z ((hA z hxz).2 hz);omega
   · have:=zhs hy z ((hB z hxz).2 hz);omega
  | some u=>
   rw[h1] at hy
   cases h2:jp (zy b x) x with
   | none=>rw[h2] at hy;cases hy
   | some v=>rw[h2] at hy;simp only at hy;split at hy <;> cases hy
 have hlt:∀y,(y∈yh a∨y∈yh b)→y<18446744073709551616:=fun y hy=>by
  rcases hy with h | h
  · exact zfo ha y h
  · exact zfo hb y h
 have hall:∀y,(y∈yh a∨y∈yh b)→y∈qd [a,b]:=fun y hy=>(zhr a b y).2 (.inr hy)
 cases hn:zb0 (zy a x) (zy b x) x with
 | none=>
  have hp:zeu a b x=((x,18446744073709551615),(mem a x,mem b x)):=by unfold zeu;rw[hn]
  rw[hp];have hno:=none_case hn;refine⟨zm5 h rfl (by simp only;omega) (by simp only;omega) hm (fun z hz1 hz2=>?_),fun y hy=>by cases hy⟩;simp only at hz1 hz2 ⊢
  exact⟨zfn ha hz1 (by omega) fun y hy hyx=>hno y (.inl hy) hyx.1,zfn hb hz1 (by omega) fun y hy hyx=>hno y (.inr hy) hyx.1⟩
 | some y=>
  obtain⟨k1,k2,k3⟩:=key y hn;have hp:zeu a b x=((x,y - 1),(mem a x,mem b x)):=by unfold zeu;rw[hn]
  have hy:=hlt y k2;rw[hp];refine⟨zm5 h rfl (by simp only;omega) (by simp only;omega) hm (fun z hz1 hz2=>?_),fun u hu=>by cases hu;exact⟨k1,hy,by simp only;omega,hall y k2⟩⟩;simp only at hz1 hz2 ⊢;exact⟨zfn ha hz1 (by omega) fun u hu hux=>by have:=k3 u (.inl hu) hux.1;omega,zfn hb hz1 (by omega) fun u hu hux=>by have:=k3 u (.inr hu) hux.1;omega⟩
def zaq (g:Bool→Bool→Bool) (ps:List Pc):List Iv:=qu (ps.map fun p=>(p.1,g p.2.1 p.2.2)) []
theorem zra (g:Bool→Bool→Bool) (ps:List Pc) (p:Pc):zaq g (ps++[p])=if g p.2.1 p.2.2 then zby (zaq g ps) p.1 else zaq g ps:=by
 unfold zaq;rw[List.map_append,zmq]
 rfl
theorem zm6 {g:Bool→Bool→Bool} {a b:List Iv}:∀{x:Nat} {ps:List Pc} {y:Nat} {out:List Iv},Chn a b x ps y→Good out→(∀t∈out,t.2<x)→zq out→(∀z,mem out z=(decide (z<x) && g (mem a z) (mem b z)))→
 Good (qu (ps.map fun p=>(p.1,g p.2.1 p.2.2)) out)∧(∀t∈qu (ps.map fun p=>(p.1,g p.2.1 p.2.2)) out,t.2<y)∧zq (qu (ps.map fun p=>(p.1,g p.2.1 p.2.2)) out)∧
  (∀z,mem (qu (ps.map fun p=>(p.1,g p.2.1 p.2.2)) out) z=(decide (z<y) && g (mem a z) (mem b z)))
 | x,[],y,out,hc,h1,h2,h3,h4=>by
   obtain rfl:x=y:=hc
   exact⟨h1,h2,h3,h4⟩
 | x,p :: ps,y,out,hc,h1,h2,h3,h4=>by
   obtain⟨k1,k2,k3,k4,k5,k6⟩:=hc;rw[List.map_cons,qu];have hz:∀z,x≤z→z≤p.1.2→g (mem a z) (mem b z)=g p.2.1 p.2.2:=fun z z1 z2=>by rw[(k5 z z1 z2).1,(k5 z z1 z2).2]
   cases hg:g p.2.1 p.2.2 with
   | false=>
    refine zm6 k6 (by simpa using h1) (fun t ht=>by have:=h2 t (by simpa using ht);omega) (by simpa using h3) (fun z=>?_);simp only[Bool.false_eq_true,if_false];rw[h4];by_cases hzx:z<x
    · rw[decide_eq_true hzx,decide_eq_true (show z<p.1.2+1 by omega)]
    · rw[decide_eq_false hzx];by_cases hzy:z<p.1.2+1
      · rw[hz z (by omega) (by omega),hg];simp
      · rw[decide_eq_false hzy]
   | true=>
    obtain⟨q1,q2,q3⟩:=zmi h1 (s:=p.1) (by omega) (by rw[k1];exact h2)
    have q4:zq (zby out p.1):=by
     have:=zjv (ps:=[(p.1,true)]) (out:=out) (fun q hq=>by simp at hq;subst hq;exact⟨by simp only;omega,k3⟩) h3;simpa [qu] using this
    simp only[if_true];refine zm6 k6 q1 (fun t ht=>by have:=q3 t ht;omega) q4 (fun z=>?_);rw[q2,h4];by_cases hzx:z<x
    · rw[decide_eq_true hzx,decide_eq_true (show z<p.1.2+1 by omega),decide_eq_false (show ¬p.1.1≤z by omega)];simp
    · rw[decide_eq_false hzx];by_cases hzy:z<p.1.2+1
      · rw[hz z (by omega) (by omega),hg,decide_eq_true hzy,decide_eq_true (show p.1.1≤z by omega),decide_eq_true (show z≤p.1.2 by omega)];rfl
      · rw[decide_eq_false hzy,decide_eq_false (show ¬z≤p.1.2 by omega)];simp
theorem zm7 {g:Bool→Bool→Bool} {a b:List Iv} {ps:List Pc} {y:Nat} (h:Chn a b 0 ps y):Good (zaq g ps)∧(∀t∈zaq g ps,t.2<y)∧zq (zaq g ps)∧∀z,mem (zaq g ps) z=(decide (z<y) && g (mem a z) (mem b z)):=
 zm6 h trivial (by simp) (by intro t ht;cases ht) (fun z=>by simp[mem])
theorem zm8 {g:Bool→Bool→Bool} {a b:List Iv} (ha:zq a) (hb:zq b) (h0:g false false=false) {ps:List Pc} (h:Chn a b 0 ps 18446744073709551616):zaq g ps=opL g a b:=by
 obtain⟨h1,_,_,h4⟩:=zm7 (g:=g) h;refine z0c ha hb h0 h1 fun x=>?_
 rw[h4];by_cases hx:x<18446744073709551616
 · rw[decide_eq_true hx];rfl
 · rw[decide_eq_false hx,zho ha (by omega),zho hb (by omega),h0];rfl
theorem zrb (g:Bool→Bool→Bool) (ps:List Pc):(zaq g ps).length≤ps.length:=by
 have:=zjw (ps.map fun p=>(p.1,g p.2.1 p.2.2)) [];unfold zaq;simpa using this
theorem zj7 {l:List Iv} {x:Nat} (h:mem l x=true) (h0:x=0∨mem l (x - 1)=false):x∈l.map (·.1):=by
 obtain⟨s,hs,h1,h2⟩:=mem_iff.1 h;refine List.mem_map.2 ⟨s,hs,?_⟩;rcases h0 with rfl | h0
 · omega
 · have:=zfj.1 h0 s hs;omega
theorem z0p {l:List Iv} {x:Nat} (h:mem l x=false) (h0:x≠0) (h1:mem l (x - 1)=true):x∈l.map (fun s=>s.2+1):=by
 obtain⟨s,hs,h2,h3⟩:=mem_iff.1 h1;refine List.mem_map.2 ⟨s,hs,?_⟩;have:=zfj.1 h s hs;omega
theorem zrc:∀{l:List Iv},Good l→Asc (l.map (·.1))
 | [],_=>trivial
 | s :: l,h=>by
   rw[List.map_cons];refine zd0 (fun x hx=>?_) (zrc h.tail);obtain⟨t,ht,rfl⟩:=List.mem_map.1 hx;have:=h.lower t ht;have:=h.head;omega
theorem zhu {l:List Iv} (h:Good l) {s:Iv} (hs:s∈l):mem l s.1=true∧(s.1=0∨mem l (s.1 - 1)=false):=by
 refine⟨mem_iff.2 ⟨s,hs,Nat.le_refl _,h.ok s hs⟩,?_⟩;by_cases h0:s.1=0
 · exact .inl h0
 · refine .inr ?_;rw[zfj];intro t ht htx;obtain⟨i,hi,rfl⟩:=List.getElem_of_mem hs;obtain⟨j,hj,rfl⟩:=List.getElem_of_mem ht;have hgi:=zcr h i hi;have hgj:=zcr h j hj;rw[qf hi] at hgi;rw[qf hj] at hgj;rcases Nat.lt_trichotomy i j with e | e | e
   · have:=good_mono' h e hj;omega
   · subst e;omega
   · have:=good_mono' h e hi;omega
 where
 good_mono' {l:List Iv} (h:Good l) {i j:Nat} (hij:i<j) (hj:j<l.length):(l[i]'(Nat.lt_trans hij hj)).2+1<(l[j]).1:=by
  induction l generalizing i j with
  | nil=>simp at hj
  | cons s l ih=>
   cases j with
   | zero=>omega
   | succ j=>
    cases i with
    | zero=>exact h.lower _ (List.getElem_mem _)
    | succ i=>exact ih h.tail (by omega) (by simpa using hj)
theorem zrd {L:List Iv} (h:Good L) {M:List Nat} (hM:∀x,mem L x=true→(x=0∨mem L (x - 1)=false)→x∈M):L.length≤M.length:=by
 have:=zcz (zrc h) (M:=M) fun x hx=>by
  obtain⟨s,hs,rfl⟩:=List.mem_map.1 hx;obtain⟨h1,h2⟩:=zhu h hs;exact hM _ h1 h2
 simpa using this
theorem zj8 {a b:List Iv} (ha:zq a) (hb:zq b):(opL gOr a b).length≤a.length+b.length:=by
 obtain⟨h1,h2,_⟩:=zai (g:=gOr) ha hb rfl
 have:=zrd h1 (M:=a.map (·.1)++b.map (·.1)) fun x hx h0=>by
  rw[h2] at hx;rw[h2] at h0;simp only[gOr,Bool.or_eq_true,Bool.or_eq_false_iff] at hx h0;rw[List.mem_append];rcases hx with hx | hx
  · exact .inl (zj7 hx (h0.imp id And.left))
  · exact .inr (zj7 hx (h0.imp id And.right))
 simpa using this
theorem zre {a b:List Iv} (ha:zq a) (hb:zq b):(opL jl a b).length≤a.length+b.length:=by
 obtain⟨h1,h2,_⟩:=zai (g:=jl) ha hb rfl
 have:=zrd h1 (M:=a.map (·.1)++b.map (fun s=>s.2+1)) fun x hx h0=>by
  rw[h2] at hx;rw[h2] at h0;simp only[jl,Bool.and_eq_true,Bool.not_eq_true',Bool.and_eq_false_iff,Bool.not_eq_false'] at hx h0;rw[List.mem_append];by_cases hx0:x=0
  · exact .inl (zj7 hx.1 (.inl hx0))
  · rcases h0 with h0 | h0 | h0
    · exact absurd h0 hx0
    · exact .inl (zj7 hx.1 (.inr h0))
    · exact .inr (z0p hx.2 hx0 h0)
 simpa using this
end
section
abbrev LtV (v:Vec):Prop:=∀e∈v,LtE e
theorem zm9 {e:Ent} (h:LtE e) (c:Nat):mem (qz e) c=zbn e c:=(zes h).2.1 c
def yi (v:Vec) (r:Nat):List Iv:=match v.find? (fun e=>decide (e.1=r)) with | some e=>qz e | none=>[]
theorem zhv {v:Vec} (hl:LtV v) (ha:v.Pairwise kd) (r c:Nat):mem (yi v r) c=ju v r c:=by
 unfold yi
 cases hf:v.find? (fun e=>decide (e.1=r)) with
 | none=>
  have hn:=List.find?_eq_none.1 hf;rw[zbx]
  symm
  rw[←Bool.not_eq_true,zca];rintro⟨e,he,hr,_⟩
  exact hn e he (decide_eq_true hr)
 | some e=>
  have he:=List.mem_of_find?_eq_some hf;have hr:e.1=r:=by have:=List.find?_some hf;exact of_decide_eq_true this
  simp only;rw[zm9 (hl e he),Bool.eq_iff_iff,zca];constructor
  · intro h;exact⟨e,he,hr,h⟩
  · rintro⟨f,hf2,hr2,h⟩;rw[zj2 ha he hf2 (by omega)];exact h
theorem zct {v:Vec} (hl:LtV v) (r:Nat):zq (yi v r):=by
 unfold yi
 cases hf:v.find? (fun e=>decide (e.1=r)) with
 | none=>intro t ht;cases ht
 | some e=>exact(zes (hl e (List.mem_of_find?_eq_some hf))).2.2
structure IsOf (r:Nat) (L:List Iv) (o:Option Ent):Prop where
 none:L=[]→o=none
 some:L≠[]→∃e,o=some e∧e.1=r∧CanE e∧zq e.2.2∧e.2.1<18446744073709551616∧∀c,zbn e c=mem L c
theorem zhw {r:Nat} {L:List Iv} (hG:Good L) (hl:zq L):IsOf r L (ofE r L):=by
 refine⟨fun h=>by unfold ofE;rw[if_pos h],fun h=>?_⟩;obtain⟨e,h1,h2,h3,h4,h5,h6⟩:=z0e (r:=r) hG hl h;exact⟨e,h1,h2,h3,h4,h5,h6⟩
theorem z0q {S:List Nat} (f:Nat→Option Ent) (hS:Asc S) (hf:∀r∈S,∀e,f r=some e→e.1=r∧CanE e∧LtE e):
 CanV (S.filterMap f)∧LtV (S.filterMap f)∧∀r c,ju (S.filterMap f) r c=true↔∃e,r∈S∧f r=some e∧zbn e c=true:=by
 refine⟨⟨?_,fun e he=>?_⟩,fun e he=>?_,fun r c=>?_⟩
 · induction S with
   | nil=>exact List.Pairwise.nil
   | cons a S ih=>
    have ih':=ih hS.tail (fun r hr=>hf r (List.mem_cons_of_mem _ hr))
    cases h:f a with
    | none=>rw[List.filterMap_cons_none h];exact ih'
    | some e=>
     rw[List.filterMap_cons_some h];refine List.pairwise_cons.2 ⟨fun g hg=>?_,ih'⟩;obtain⟨b,hb,hb2⟩:=List.mem_filterMap.1 hg;have e1:=(hf a (List.mem_cons_self ..) e h).1;have e2:=(hf b (List.mem_cons_of_mem _ hb) g hb2).1;have:=hS.lower b hb;unfold kd;omega
 · obtain⟨b,hb,hb2⟩:=List.mem_filterMap.1 he;exact(hf b hb e hb2).2.1
 · obtain⟨b,hb,hb2⟩:=List.mem_filterMap.1 he;exact(hf b hb e hb2).2.2
 · rw[zca];constructor
   · rintro⟨e,he,hr,hk⟩;obtain⟨b,hb,hb2⟩:=List.mem_filterMap.1 he;have:=(hf b hb e hb2).1;subst hr;exact⟨e,by rw[this];exact hb,by rw[this];exact hb2,hk⟩
   · rintro⟨e,hr,he,hk⟩;exact⟨e,List.mem_filterMap.2 ⟨r,hr,he⟩,(hf r hr e he).1,hk⟩
def zaw (a b:Vec):List Nat:=zcs (a.map (·.1)++b.map (·.1))
def doV (g:Bool→Bool→Bool) (a b:Vec):Vec:=(zaw a b).filterMap fun r=>ofE r (opL g (yi a r) (yi b r))
theorem zrf {v:Vec} {r:Nat} (h:r∉v.map (·.1)) (c:Nat):ju v r c=false:=by
 rw[←Bool.not_eq_true,zca];rintro⟨e,he,hr,_⟩;exact h (List.mem_map.2 ⟨e,he,hr⟩)
theorem zna {g:Bool→Bool→Bool} (h0:g false false=false) {a b:Vec} (ha:LtV a) (hb:LtV b) (pa:a.Pairwise kd) (pb:b.Pairwise kd):
 CanV (doV g a b)∧LtV (doV g a b)∧∀r c,ju (doV g a b) r c=g (ju a r c) (ju b r c):=by
 have hop:=fun r=>zai (g:=g) (zct ha r) (zct hb r) h0
 have hreps:∀r,r∈zaw a b↔r∈a.map (·.1)∨r∈b.map (·.1):=fun r=>by unfold zaw;rw[zdl,List.mem_append]
 obtain⟨h1,h2,h3⟩:=z0q (S:=zaw a b) (fun r=>ofE r (opL g (yi a r) (yi b r))) (zeq _) (fun r hr e he=>by
  have hi:=zhw (r:=r) (hop r).1 (hop r).2.2;by_cases hn:opL g (yi a r) (yi b r)=[]
  · rw[hi.none hn] at he;cases he
  · obtain⟨e',h1,h2,h3,h4,h5,_⟩:=hi.some hn;rw[h1] at he;cases he;refine⟨h2,h3,⟨?_,h5,h4⟩⟩;rw[h2];rcases(hreps r).1 hr with h | h
    · obtain⟨f,hf,rfl⟩:=List.mem_map.1 h;exact(ha f hf).rep
    · obtain⟨f,hf,rfl⟩:=List.mem_map.1 h;exact(hb f hf).rep)
 refine⟨h1,h2,fun r c=>?_⟩;rw[Bool.eq_iff_iff];refine(h3 r c).trans ?_;have hi:=zhw (r:=r) (hop r).1 (hop r).2.2;have hm:=(hop r).2.1 c;rw[zhv ha pa,zhv hb pb] at hm;constructor
 · rintro⟨e,hr,he,hk⟩;by_cases hn:opL g (yi a r) (yi b r)=[]
   · rw[hi.none hn] at he;cases he
   · obtain⟨e',k1,_,_,_,_,k6⟩:=hi.some hn;rw[k1] at he;cases he;rw[←hm,←k6];exact hk
 · intro hg
   have hne:opL g (yi a r) (yi b r)≠[]:=by
    intro h;rw[h,zbx] at hm;rw[←hm] at hg;cases hg
   obtain⟨e',k1,_,_,_,_,k6⟩:=hi.some hne;refine⟨e',?_,k1,by rw[k6,hm];exact hg⟩;rw[hreps];refine Decidable.by_contra fun hr=>?_
   rw[not_or] at hr;rw[zrf hr.1,zrf hr.2,h0] at hg;cases hg
def zbo (e:Ent):Option Ent:=ofE e.1 (qz e)
def jm (v:Vec):Vec:=v.filterMap zbo
theorem zrg {e:Ent} (h:LtE e):IsOf e.1 (qz e) (zbo e):=zhw (zes h).1 (zes h).2.2
theorem zew {e f:Ent} (h:LtE e) (hf:zbo e=some f):f.1=e.1∧CanE f∧LtE f∧∀c,zbn f c=zbn e c:=by
 have hi:=zrg h;by_cases hn:qz e=[]
 · rw[hi.none hn] at hf;cases hf
 · obtain⟨e',k1,k2,k3,k4,k5,k6⟩:=hi.some hn;rw[k1] at hf;cases hf;exact⟨k2,k3,⟨by rw[k2];exact h.rep,k5,k4⟩,fun c=>by rw[k6,zm9 h]⟩
theorem zrh {e:Ent} (h:LtE e) (hf:zbo e=none) (c:Nat):zbn e c=false:=by
 have hi:=zrg h;by_cases hn:qz e=[]
 · rw[←zm9 h,hn];rfl
 · obtain⟨e',k1,_⟩:=hi.some hn;rw[k1] at hf;cases hf
theorem z0r {e:Ent} (h:LtE e) (hc:CanE e):zbo e=some e:=by
 cases hf:zbo e with
 | none=>have:=zrh h hf e.2.1;rw[zm0 hc] at this;cases this
 | some f=>
  obtain⟨h1,h2,_,h4⟩:=zew h hf;rw[zqt hc h2 h1.symm fun c=>(h4 c).symm]
theorem zhx {v:Vec} (hl:LtV v) (ha:v.Pairwise kd):CanV (jm v)∧LtV (jm v)∧∀r c,ju (jm v) r c=ju v r c:=by
 refine⟨⟨?_,fun f hf=>?_⟩,fun f hf=>?_,fun r c=>?_⟩
 · unfold jm
   induction v with
   | nil=>exact List.Pairwise.nil
   | cons e v ih=>
    obtain⟨p,q⟩:=List.pairwise_cons.1 ha;have ih':=ih (fun x hx=>hl x (List.mem_cons_of_mem _ hx)) q
    cases h:zbo e with
    | none=>rw[List.filterMap_cons_none h];exact ih'
    | some f=>
     rw[List.filterMap_cons_some h];refine List.pairwise_cons.2 ⟨fun g hg=>?_,ih'⟩;obtain⟨b,hb,hb2⟩:=List.mem_filterMap.1 hg;have e1:=(zew (hl e (List.mem_cons_self ..)) h).1;have e2:=(zew (hl b (List.mem_cons_of_mem _ hb)) hb2).1;have:=p b hb;unfold kd at this ⊢;omega
 · obtain⟨b,hb,hb2⟩:=List.mem_filterMap.1 hf;exact(zew (hl b hb) hb2).2.1
 · obtain⟨b,hb,hb2⟩:=List.mem_filterMap.1 hf;exact(zew (hl b hb) hb2).2.2.1
 · rw[Bool.eq_iff_iff,zca,zca];constructor
   · rintro⟨f,hf,hr,hk⟩;obtain⟨b,hb,hb2⟩:=List.mem_filterMap.1 hf;obtain⟨e1,_,_,e4⟩:=zew (hl b hb) hb2;exact⟨b,hb,by omega,by rw[←e4];exact hk⟩
   · rintro⟨b,hb,hr,hk⟩
     cases h:zbo b with
     | none=>rw[zrh (hl b hb) h] at hk;cases hk
     | some f=>
      obtain⟨e1,_,_,e4⟩:=zew (hl b hb) h;exact⟨f,List.mem_filterMap.2 ⟨b,hb,h⟩,by omega,by rw[e4];exact hk⟩
theorem zj9 {v:Vec} (hl:LtV v) (hc:CanV v):jm v=v:=by
 have h:=zhx hl hc.asc;exact zm1 h.1 hc h.2.2
structure LtF (f:Frg):Prop where
 items:zq f.1
 vec:LtV f.2
 asc:f.2.Pairwise kd
abbrev LtK (k:Kno):Prop:=∀f∈k,LtF f
def atK (k:Kno) (x:Nat):Vec:=k.foldl (fun v f=>if mem f.1 x=true then doV gOr v f.2 else v) []
theorem z0s:CanV []:=⟨List.Pairwise.nil,fun e he=>by cases he⟩
theorem znb {x:Nat}:∀{k:Kno} {v:Vec},LtK k→CanV v→LtV v→
 CanV (k.foldl (fun v f=>if mem f.1 x=true then doV gOr v f.2 else v) v)∧LtV (k.foldl (fun v f=>if mem f.1 x=true then doV gOr v f.2 else v) v)∧
  ∀r c,ju (k.foldl (fun v f=>if mem f.1 x=true then doV gOr v f.2 else v) v) r c=(ju v r c || kr k x r c)
 | [],v,_,hc,hl=>⟨hc,hl,fun r c=>by simp[kr]⟩
 | f :: k,v,hk,hc,hl=>by
   have hf:=hk f (List.mem_cons_self ..);rw[List.foldl_cons];have e:∀r c,kr (f :: k) x r c=((mem f.1 x && ju f.2 r c) || kr k x r c):=fun r c=>rfl
   by_cases hx:mem f.1 x=true
   · obtain⟨h1,h2,h3⟩:=zna (g:=gOr) rfl hl hf.vec hc.asc hf.asc;rw[if_pos hx];obtain⟨k1,k2,k3⟩:=znb (k:=k) (v:=doV gOr v f.2) (fun g hg=>hk g (List.mem_cons_of_mem _ hg)) h1 h2;refine⟨k1,k2,fun r c=>?_⟩;rw[k3,h3,e,hx];simp[gOr,Bool.or_assoc]
   · have hx':mem f.1 x=false:=by simpa using hx
     rw[if_neg hx];obtain⟨k1,k2,k3⟩:=znb (k:=k) (v:=v) (fun g hg=>hk g (List.mem_cons_of_mem _ hg)) hc hl;refine⟨k1,k2,fun r c=>?_⟩;rw[k3,e,hx'];simp
theorem zc1 {k:Kno} (hk:LtK k) (x:Nat):CanV (atK k x)∧LtV (atK k x)∧∀r c,ju (atK k x) r c=kr k x r c:=by
 obtain⟨h1,h2,h3⟩:=znb (x:=x) (v:=[]) hk z0s (fun e he=>by cases he);exact⟨h1,h2,fun r c=>by unfold atK;rw[h3];rfl⟩
end
section
open Go.RowKit
theorem znc {e:Ent} (h:zq e.2.2) (hm:e.2.1<18446744073709551616):(qz e).length≤1+e.2.2.length:=by
 have:=zre (a:=[(0,e.2.1)]) (b:=e.2.2) (zer (by omega) hm) h;simpa [qz] using this
theorem z0t {r:Nat} {L:List Iv} {f:Ent} (h:zq L) (hf:ofE r L=some f):f.2.2.length≤1+L.length:=by
 unfold ofE at hf;split at hf
 · cases hf
 · cases hf;have:=zre (a:=[(0,ki L)]) (b:=L) (zer (by omega) (zmx h)) h;simpa using this
theorem znd (x:Nat) (w:World):Calls Tryz.prog 291 #[.int .u64 x] w fun e w'=>e=.returned (.bool false)∧w'=w:=by
 go_enter Tryz.func291,Tryz.ntmps291;go_wp2;go_ret;exact⟨by simp,rfl⟩
theorem zne:∀{L:List Nat},Asc L→∀i j,i<j→j<L.length→nth L i<nth L j
 | [],_,i,j,_,hj=>by simp at hj
 | a :: l,h,0,j+1,_,hj=>h.lower _ (by simp at hj;rw[show nth (a :: l) (j+1)=nth l j from rfl];simp[nth,hj])
 | a :: l,h,i+1,j+1,hij,hj=>zne h.tail i j (by omega) (by simpa using hj)
set_option maxRecDepth 20000 in
theorem z0u (a:Option Addr) (n cap x:Nat) (L:List Nat) (w:World) (hU:U64s w a n cap L) (hA:Asc L) (hn:n≤1000000):
 Calls Tryz.prog 283 #[.slice a n cap,.int .u64 x] w fun e w'=>
  (∃(p:Nat) (z:Bool),e=.returned (.tuple #[.int .i64 (p:Int),.bool z])∧p≤n∧(∀t,t<p→nth L t<x)∧(∀t,p≤t→t<n→x≤nth L t))∧w'=w:=by
 have HA:=hid hA;have Hl:=hid hU.len;have HU:=hid hU;clear hU hA;go_enter Tryz.func283,Tryz.ntmps283;go_wp2;go_loopw [7,8,9] (fun i j _ wr=>∃p q:Nat,p≤q∧q≤n∧i=.int .i64 p∧j=.int .i64 q∧Hid (wr=w)∧Hid ((∀t,t<p→nth L t<x)∧∀t,q≤t→t<n→x≤nth L t)) (fun i j _ _=>(intOf j).toNat - (intOf i).toNat)
 case atStart=>exact⟨0,n,by omega,by omega,rfl,rfl,rfl,fun t ht=>by omega,fun t h1 h2=>by omega⟩
 case round=>
  obtain⟨p,q,hpq,hqn,rfl,rfl,hw,ht⟩:=hrel;have HUr:U64s wr a n cap L:=by rw[hw.out];exact HU.out
  by_cases hlt:p<q
  · obtain⟨bb,oo,rfl,hcell⟩:=HUr.cells (by omega);obtain⟨h,hh,hph,hhq⟩:∃h:Nat,((p:Int)+(q:Int)) / 2=(h:Int)∧p≤h∧h<q:=⟨(p+q) / 2,by omega,by omega,by omega⟩;have hhn:h<n:=by omega
    have hc1:=hcell h hhn;clear hcell;have Hms:=hid (fun t (ht:t<h)=>zne HA.out t h ht (by rw[Hl.out];exact hhn));have Hms2:=hid (fun t (ht:h<t) (htl:t<n)=>zne HA.out h t ht (by rw[Hl.out];exact htl));have hroom:=HUr.room;clear HUr;generalize hy:nth L h=y at*;have Hy:=hid hy;clear hy;by_cases hlx:y<x
    · have hci:ltU y x=true:=by simp[ltU,hlx]
      have Hr:=hid (show ∀t,t<h+1→nth L t<x from by
       intro t htt;by_cases e:t=h
       · subst e;rw[Hy.out];exact hlx
       · have h1:=Hms.out t (by omega);omega)
      clear hlx;go_wp2_with (first | (go_at_call 279;refine(jk _ _ _).mono ?_;rintro e w1 ⟨rfl,rfl⟩));go_roundw
      case rel=>exact⟨h+1,q,by omega,by omega,by go_num,rfl,hw,Hr.out,ht.out.2⟩
      case measure=>simp[intOf];omega
    · have hci:ltU y x=false:=by simp[ltU];omega
      have Hr:=hid (show ∀t,h≤t→t<n→x≤nth L t from by
       intro t htt htn;by_cases e:t=h
       · subst e;rw[Hy.out];omega
       · have h1:=Hms2.out t (by omega) htn;omega)
      clear hlx;go_wp2_with (first | (go_at_call 279;refine(jk _ _ _).mono ?_;rintro e w1 ⟨rfl,rfl⟩));go_roundw
      case rel=>exact⟨p,h,by omega,by omega,rfl,rfl,hw,ht.out.1,Hr.out⟩
      case measure=>simp[intOf];omega
  · obtain rfl:p=q:=by omega
    by_cases hpn:p<n
    · obtain⟨bb,oo,rfl,hcell⟩:=HUr.cells (by omega);have hc1:=hcell p hpn;have hroom:=HUr.room;clear hcell HUr;generalize hy:nth L p=y at*;clear hy;have hd:decide (p<n)=true:=by rw[decide_eq_true_iff];exact hpn
      by_cases hyx:y=x
      · have hci:((y:Int) == (x:Int))=true:=by simp[hyx]
        go_wp2_with (first | (go_at_call 291;refine(znd _ _).mono ?_;rintro e w1 ⟨rfl,rfl⟩));go_ret2;exact⟨⟨p,_,rfl,hqn,ht.out.1,ht.out.2⟩,hw.out⟩
      · have hci:((y:Int) == (x:Int))=false:=by simp;omega
        go_wp2_with (first | (go_at_call 291;refine(znd _ _).mono ?_;rintro e w1 ⟨rfl,rfl⟩));go_ret2;exact⟨⟨p,_,rfl,hqn,ht.out.1,ht.out.2⟩,hw.out⟩
    · have hd:decide (p<n)=false:=by rw[decide_eq_false_iff_not];exact hpn
      clear HUr;go_wp2_with (first | (go_at_call 291;refine(znd _ _).mono ?_;rintro e w1 ⟨rfl,rfl⟩));go_ret2;exact⟨⟨p,_,rfl,hqn,ht.out.1,ht.out.2⟩,hw.out⟩
theorem zri:∀{L:List Nat} {x p:Nat},Asc L→x∉L→p≤L.length→(∀t,t<p→nth L t<x)→(∀t,p≤t→t<L.length→x≤nth L t)→jo L x=L.take p++x :: L.drop p
 | [],x,p,_,_,hp,_,_=>by simp[jo]
 | a :: l,x,0,_,hx,_,_,h2=>by
   have h3:x≤a:=h2 0 (Nat.le_refl _) (by simp);have h4:x≠a:=fun e=>hx (by simp[e])
   rw[jo,if_pos (by omega)];rfl
 | a :: l,x,p+1,h,hx,hp,h1,h2=>by
   have h3:a<x:=h1 0 (by omega);rw[jo,if_neg (by omega),if_neg (by omega),zri (p:=p) h.tail (fun hm=>hx (by simp[hm])) (by simpa using hp) (fun t ht=>h1 (t+1) (by omega)) (fun t h4 h5=>h2 (t+1) (by omega) (by simpa using h5))]
   rfl
end
section
open Go.RowKit Go.Shelf
def zc (v:Vec) (i:Nat):Ent:=v.getD i (0,0,[])
theorem qn {v:Vec} {i:Nat} (h:i<v.length):zc v i=v[i]:=by simp[zc,h]
theorem jb {v:Vec} {i:Nat} (h:i<v.length):zc v i∈v:=by rw[qn h];exact List.getElem_mem h
structure Ents (w:World) (a:Option Addr) (n cap:Nat) (v:Vec):Prop where
 len:v.length=n
 lt:LtV v
 room:n≤cap
 most:cap≤9223372036854775807
 nilc:a=none→cap=0
 cells:0<n→∃b o,a=some ⟨b,o,none⟩∧∀i,i<n→w.cell? ⟨b,o+i*3,none⟩=some (.int .u64 (((zc v i).1:Nat):Int))∧w.cell? ⟨b,o+i*3+1,none⟩=some (.int .u64 (((zc v i).2.1:Nat):Int))∧
  ∃x k c,w.cell? ⟨b,o+i*3+2,none⟩=some (.slice x k c)∧Ivs w x k c (zc v i).2.2
theorem Ents.below {w w':World} {a:Option Addr} {n cap:Nat} {v:Vec} (h:Ents w a n cap v) (hb:Below w.heap.size w w'):Ents w' a n cap v:=by
 refine⟨h.len,h.lt,h.room,h.most,h.nilc,fun hn=>?_⟩;obtain⟨b,o,ha,hc⟩:=h.cells hn;refine⟨b,o,ha,fun i hi=>?_⟩;obtain⟨h1,h2,x,k,c,h3,h4⟩:=hc i hi;exact⟨(hb.cell (p:=⟨b,o+i*3,none⟩) (ze h1)).trans h1,(hb.cell (p:=⟨b,o+i*3+1,none⟩) (ze h2)).trans h2,x,k,c,(hb.cell (p:=⟨b,o+i*3+2,none⟩) (ze h3)).trans h3,h4.below hb⟩
theorem zrj (w:World):Ents w none 0 0 []:=⟨rfl,by simp,by omega,by omega,fun _=>rfl,fun h=>by omega⟩
def zex (w:World) (base:Nat) (T:TypeId) (b:Nat):Prop:=b<base∨∃C fr,w.heap[b]?=some (.cells C T fr)
structure Steady (base:Nat) (P:TypeId→Prop) (w w':World):Prop where
 size:w.heap.size≤w'.heap.size
 row:∀k,k<w.heap.size→(k<base∨∃C T fr,P T∧w.heap[k]?=some (.cells C T fr))→w'.heap[k]?=w.heap[k]?
theorem Steady.of_below {base:Nat} {P:TypeId→Prop} {w w':World} (h:Below w.heap.size w w'):Steady base P w w':=⟨h.size,fun k hk _=>h.block k hk⟩
theorem Steady.trans {base:Nat} {P:TypeId→Prop} {a b c:World} (h:Steady base P a b) (k:Steady base P b c):Steady base P a c:=
 ⟨Nat.le_trans h.size k.size,fun i hi hp=>(k.row i (Nat.lt_of_lt_of_le hi h.size) (hp.imp id fun ⟨C,T,fr,hT,hr⟩=>⟨C,T,fr,hT,(h.row i hi (.inr ⟨C,T,fr,hT,hr⟩)).trans hr⟩)).trans (h.row i hi hp)⟩
theorem Steady.weak {base:Nat} {P Q:TypeId→Prop} {w w':World} (h:Steady base P w w') (hq:∀T,Q T→P T):Steady base Q w w':=⟨h.size,fun k hk hp=>h.row k hk (hp.imp id fun ⟨C,T,fr,hT,hr⟩=>⟨C,T,fr,hq T hT,hr⟩)⟩
theorem Steady.lower {base base':Nat} {P:TypeId→Prop} {w w':World} (h:Steady base P w w') (hb:base'≤base):Steady base' P w w':=⟨h.size,fun k hk hp=>h.row k hk (hp.imp (fun h=>by omega) id)⟩
theorem Steady.grown {base sz n:Nat} {P:TypeId→Prop} {w w':World} {e:TypeId} {v:Value} {xs:List Value} (ho:w.ownsRow base e sz v n xs) (hg:w.grownBy w' v.ownBlock) (he:¬P e):Steady base P w w':=by
 refine⟨hg.size,fun k hk hp=>hg.block k hk fun hr=>?_⟩;rcases ho.2 with ⟨rfl,_⟩ | ⟨g,cap,cur,rfl,hb,hh,_⟩
 · simp[Value.ownBlock] at hr
 · simp[Value.ownBlock] at hr;subst hr;rcases hp with h | ⟨C,T,fr,hT,h⟩
   · omega
   · rw[hh] at h;cases h;exact he hT
theorem Steady.setCell {base:Nat} {P:TypeId→Prop} {w:World} {a:Addr} {u:Value} {e:TypeId} {C:Array Value} {fr:Nat×Nat} (h:w.heap[a.block]?=some (.cells C e fr)) (hb:base≤a.block) (he:¬P e):Steady base P w (w.setCell a u):=by
 refine⟨by simp[World.setCell],fun k hk hp=>Below.heap_setCell _ _ _ _ fun hr=>?_⟩;subst hr;rcases hp with h' | ⟨C',T,fr',hT,h'⟩
 · omega
 · rw[h] at h';cases h';exact he hT
def zb1 (T:TypeId):Prop:=T=99
def zbp (T:TypeId):Prop:=T=99∨T=101
theorem zka {w w':World} {base:Nat} {T:TypeId} {P:TypeId→Prop} {b:Nat} (h:zex w base T b) (hb:b<w.heap.size) (hs:Steady base P w w') (hT:P T):zex w' base T b∧w'.heap[b]?=w.heap[b]?:=by
 rcases h with h | ⟨C,fr,h⟩
 · exact⟨.inl h,hs.row b hb (.inl h)⟩
 · have:=hs.row b hb (.inr ⟨C,T,fr,hT,h⟩);exact⟨.inr ⟨C,fr,this.trans h⟩,this⟩
structure IvsT (w:World) (base:Nat) (a:Option Addr) (n c:Nat) (l:List Iv):Prop where
 ivs:Ivs w a n c l
 row:0<n→∀p,a=some p→zex w base 99 p.block
theorem IvsT.steady {w w':World} {base:Nat} {P:TypeId→Prop} {a:Option Addr} {n c:Nat} {l:List Iv} (h:IvsT w base a n c l) (hs:Steady base P w w') (hP:P 99):IvsT w' base a n c l:=by
 refine⟨⟨h.ivs.len,h.ivs.lt,h.ivs.room,h.ivs.most,h.ivs.nilc,fun hn=>?_⟩,fun hn p hp=>?_⟩
 · obtain⟨b,o,ha,hc⟩:=h.ivs.cells hn;have hb:=ze (hc 0 hn).1;obtain⟨-,hrow⟩:=zka (h.row hn _ ha) hb hs hP;exact⟨b,o,ha,fun i hi=>⟨(World.cell?_of_block (a:=⟨b,o+i*2,none⟩) hrow).trans (hc i hi).1,(World.cell?_of_block (a:=⟨b,o+i*2+1,none⟩) hrow).trans (hc i hi).2⟩⟩
 · obtain⟨b,o,ha,hc⟩:=h.ivs.cells hn;rw[ha] at hp;cases hp;exact(zka (h.row hn _ ha) (ze (hc 0 hn).1) hs hP).1
theorem IvsT.lower {w:World} {base base':Nat} {a:Option Addr} {n c:Nat} {l:List Iv} (h:IvsT w base a n c l) (hr:∀b,zex w base 99 b→zex w base' 99 b):IvsT w base' a n c l:=⟨h.ivs,fun hn p hp=>hr _ (h.row hn p hp)⟩
theorem zdn {w:World} {base base' n:Nat} {v:Value} {l:List Iv} (h:w.ownsRow base 99 2 v n (ivC l)) (hl:zq l):∃a c,v=.slice a n c∧IvsT w base' a n c l:=by
 obtain⟨a,c,rfl,hI⟩:=zah h hl;refine⟨a,c,rfl,hI,fun hn p hp=>?_⟩;rcases h.2 with ⟨h',_⟩ | ⟨g,cap,cur,h',_,hh,_⟩
 · cases h';cases hp
 · simp only[Value.slice.injEq] at h';obtain⟨rfl,_⟩:=h';cases hp;exact .inr ⟨_,_,hh⟩
def za6 (v:Vec) (ss:List Value):List Value:=(v.zip ss).flatMap fun p=>[.int .u64 ((p.1.1:Nat):Int),.int .u64 ((p.1.2.1:Nat):Int),p.2]
theorem zkb:∀{v:Vec} {ss:List Value},ss.length=v.length→(za6 v ss).length=v.length*3
 | [],_,_=>by simp[za6]
 | e :: v,[],h=>by simp at h
 | e :: v,s :: ss,h=>by
   have:=zkb (v:=v) (ss:=ss) (by simpa using h);simp only[za6,List.zip_cons_cons,List.flatMap_cons,List.length_append,List.length_cons,List.length_nil] at this ⊢;omega
theorem znf {v u:Vec} {ss ts:List Value} (h:ss.length=v.length):za6 (v++u) (ss++ts)=za6 v ss++za6 u ts:=by
 unfold za6;rw[List.zip_append h.symm,List.flatMap_append]
theorem zng:∀{v:Vec} {ss:List Value} {i:Nat},ss.length=v.length→i<v.length→
 (za6 v ss)[i*3]?=some (.int .u64 (((zc v i).1:Nat):Int))∧(za6 v ss)[i*3+1]?=some (.int .u64 (((zc v i).2.1:Nat):Int))∧(za6 v ss)[i*3+2]?=ss[i]?
 | [],_,i,_,h=>by simp at h
 | e :: v,[],i,h,_=>by simp at h
 | e :: v,s :: ss,0,_,_=>⟨rfl,rfl,rfl⟩
 | e :: v,s :: ss,i+1,h,hi=>by
   have:=zng (v:=v) (ss:=ss) (i:=i) (by simpa using h) (by simpa using hi);have e1:za6 (e :: v) (s :: ss)=.int .u64 ((e.1:Nat):Int) :: .int .u64 ((e.2.1:Nat):Int) :: s :: za6 v ss:=rfl;rw[e1,show (i+1)*3=i*3+1+1+1 by omega,show i*3+1+1+1+1=(i*3+1)+1+1+1 by omega,show i*3+1+1+1+2=(i*3+2)+1+1+1 by omega];simpa [zc] using this
def HolesT (w:World) (base:Nat) (v:Vec) (ss:List Value):Prop:=ss.length=v.length∧∀i,i<v.length→∃a n c,ss[i]?=some (.slice a n c)∧IvsT w base a n c (zc v i).2.2
theorem HolesT.steady {w w':World} {base:Nat} {P:TypeId→Prop} {v:Vec} {ss:List Value} (h:HolesT w base v ss) (hs:Steady base P w w') (hP:P 99):HolesT w' base v ss:=
 ⟨h.1,fun i hi=>let ⟨a,n,c,h1,h2⟩:=h.2 i hi;⟨a,n,c,h1,h2.steady hs hP⟩⟩
theorem zrk (w:World) (base:Nat):HolesT w base [] []:=⟨rfl,fun i hi=>by simp at hi⟩
theorem HolesT.snoc {w:World} {base:Nat} {v:Vec} {ss:List Value} {e:Ent} {a:Option Addr} {n c:Nat} (h:HolesT w base v ss) (hI:IvsT w base a n c e.2.2):HolesT w base (v++[e]) (ss++[.slice a n c]):=by
 refine⟨by simp[h.1],fun i hi=>?_⟩;by_cases hv:i<v.length
 · obtain⟨x,k,d,h1,h2⟩:=h.2 i hv;refine⟨x,k,d,by rw[List.getElem?_append_left (by rw[h.1];exact hv)];exact h1,?_⟩;have:zc (v++[e]) i=zc v i:=by rw[qn hi,qn hv,List.getElem_append_left hv]
   rw[this];exact h2
 · have hiv:i=v.length:=by simp at hi;omega
   subst hiv;refine⟨a,n,c,by rw[List.getElem?_append_right (by rw[h.1];omega),h.1];simp,?_⟩;have:zc (v++[e]) v.length=e:=by simp[zc]
   rw[this];exact hI
def OwnV (w:World) (base:Nat) (x:Value) (v:Vec):Prop:=∃ss,w.ownsRow base 101 3 x v.length (za6 v ss)∧HolesT w 0 v ss
theorem zhy (w:World) (base:Nat):OwnV w base (.slice none 0 0) []:=⟨[],World.ownsRow_nil ..,zrk w 0⟩
theorem OwnV.steady {w w':World} {base:Nat} {P:TypeId→Prop} {x:Value} {v:Vec} (h:OwnV w base x v) (hs:Steady base P w w') (h1:P 99) (h2:P 101):OwnV w' base x v:=by
 obtain⟨ss,ho,hh⟩:=h;refine⟨ss,⟨ho.1,?_⟩,hh.steady (hs.lower (Nat.zero_le _)) h1⟩;rcases ho.2 with h' | ⟨g,cap,cur,hv,hg,hr,rest⟩
 · exact .inl h'
 · exact .inr ⟨g,cap,cur,hv,hg,(hs.row g (Array.getElem?_eq_some_iff.1 hr).1 (.inr ⟨_,_,_,h2,hr⟩)).trans hr,rest⟩
theorem OwnV.below {w w':World} {base:Nat} {x:Value} {v:Vec} (h:OwnV w base x v) (hb:Below w.heap.size w w'):OwnV w' base x v:=
 h.steady (P:=fun _=>True) (.of_below hb) trivial trivial
theorem OwnV.ents {w:World} {base:Nat} {x:Value} {v:Vec} (h:OwnV w base x v) (hl:LtV v):∃a c,x=.slice a v.length c∧Ents w a v.length c v:=by
 obtain⟨ss,ho,hs⟩:=h;have ho2:=ho;rcases ho.2 with ⟨rfl,h0⟩ | ⟨g,cap,cur,rfl,hg,hh,hnc,hcm,_⟩
 · rw[h0];have:v=[]:=List.length_eq_zero_iff.1 h0;subst this;exact⟨none,0,rfl,zrj w⟩
 · refine⟨_,_,rfl,rfl,hl,hnc,by unfold maxLen at hcm;omega,(by intro h;cases h),fun hn=>⟨g,0,rfl,fun i hi=>?_⟩⟩;obtain⟨e1,e2,e3⟩:=zng hs.1 hi;obtain⟨a,n,c,h1,h2⟩:=hs.2 i hi;rw[h1] at e3;have c1:=ho2.cells (g:=g) rfl _ _ e1;have c2:=ho2.cells (g:=g) rfl _ _ e2;have c3:=ho2.cells (g:=g) rfl _ _ e3;rw[yp] at c1 c2 c3;exact⟨c1,by rw[Nat.add_assoc];exact c2,a,n,c,by rw[Nat.add_assoc];exact c3,h2.ivs⟩
theorem OwnV.lower {w:World} {base base':Nat} {x:Value} {v:Vec} (h:OwnV w base x v) (hb:base'≤base):OwnV w base' x v:=by
 obtain⟨ss,ho,hh⟩:=h;exact⟨ss,y9 ho hb,hh⟩
theorem Tryz.info_ent:(Tryz.prog.info? 101).map (fun i=>(i.zero,i.size,i.bytes))=some (some (.agg #[.int .u64 0,.int .u64 0,.slice none 0 0]),3,40):=by kernel_rfl
theorem z0v {w:World} (base:Nat) (x:Value) (v:Vec) (e:Ent) (hown:OwnV w base x v) (a:Option Addr) (n c:Nat) (hI:IvsT w 0 a n c e.2.2) (A:Option Addr) (cA:Nat)
 (hr:Rd w 3 A 1 [.int .u64 ((e.1:Nat):Int),.int .u64 ((e.2.1:Nat):Int),.slice a n c]) (hb:v.length+1≤1000000) (hbase:base≤w.heap.size):
 ∃x' w',(Builtin.append_ #[83,83] 83 #[x,.slice A 1 cA]).run Tryz.prog w=.ok x' w'∧OwnV w' base x' (v++[e])∧w.grownBy w' x.ownBlock∧Steady base zb1 w w':=by
 obtain⟨ss,ho,hh⟩:=hown;obtain⟨x',w',h1,h2,h3⟩:=zcp base _ _ _ _ 3 40 Tryz.underlying83 Tryz.info_ent rfl (by omega) x v.length _ ho A 1 cA _ hr (by simp[Value.oneCell']) (by unfold maxLen;omega) (by omega) hbase;have hs:Steady base zb1 w w':=.grown ho h3 (by intro h;cases h);refine⟨x',w',h1,⟨ss++[.slice a n c],?_,(hh.steady (hs.lower (Nat.zero_le _)) rfl).snoc (hI.steady (hs.lower (Nat.zero_le _)) rfl)⟩,h3,hs⟩;rw[znf hh.1,List.length_append];exact h2
end
end Go.Proofs.YtdnjfnofjaoajaaGreatDoor
