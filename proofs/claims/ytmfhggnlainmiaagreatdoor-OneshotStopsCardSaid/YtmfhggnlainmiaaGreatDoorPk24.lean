/- Part 24. -/
import Derived.Test.YtmfhggnlainmiaaGreatDoorPk19
set_option linter.unusedVariables false
namespace Go.Proofs.YtmfhggnlainmiaaGreatDoor
section
def jj (l:List Nat) (p:Nat) (most:Int):Nat×Nat×Err:=
 match zar l p with
 | some (c,q)=>(0,0,some ((c:Int),some (q:Int)))
 | none=>
  match yf (l.drop (p+5)) 0 0 with
  | (1,x,j)=>if max most 0<(x:Int) then (0,0,some (7,some ((p+5:Nat):Int))) else (p+5+j,x,none)
  | (2,_,_)=>(0,0,some (6,some ((p+5:Nat):Int)))
  | _=>(0,0,some (5,some (p:Int)))
theorem zhz {l:List Nat} {p c q:Nat} {most:Int} (h:zar l p=some (c,q)):jj l p most=(0,0,some ((c:Int),some (q:Int))):=by
 unfold jj;rw[h]
end
section
open Go.RowKit
theorem z0x (l:List Nat) (p:Nat) (most:Int) (h:zar l p=none) (st x j:Nat) (hs:yf (l.drop (p+5)) 0 0=(st,x,j)):
 jj l p most=match (st,x,j) with
 | (1,x,j)=>if max most 0<(x:Int) then (0,0,some (7,some ((p+5:Nat):Int))) else (p+5+j,x,none)
 | (2,_,_)=>(0,0,some (6,some ((p+5:Nat):Int)))
 | _=>(0,0,some (5,some (p:Int))):=by
 unfold jj;rw[h,hs];try rfl
theorem zo5:∀(l:List Nat) (j x:Nat),(yf l j x).1=0∨(yf l j x).1=1∨(yf l j x).1=2
 | [],j,x=>.inl rfl
 | c :: l,j,x=>by
   unfold yf;split
   · exact .inr (.inr rfl)
   · split
     · exact .inr (.inl rfl)
     · exact zo5 l _ _
theorem zsz:∀(l:List Nat) (j x:Nat),x<18446744073709551616→(yf l j x).2.1<18446744073709551616
 | [],j,x,h=>by show 0<18446744073709551616;omega
 | c :: l,j,x,h=>by
   unfold yf;split
   · show 0<18446744073709551616;omega
   · split
     · exact zir j c h
     · exact zsz l _ _ (zir j c h)
theorem zo6:∀(l:List Nat) (j x:Nat),(yf l j x).2.2≤j+l.length
 | [],j,x=>by show j≤j+0;omega
 | c :: l,j,x=>by
   have ih:=zo6 l (j+1) (y8 x j c);unfold yf;split
   · show j+1≤j+(l.length+1);omega
   · split
     · show j+1≤j+(l.length+1);omega
     · rw[List.length_cons];omega
