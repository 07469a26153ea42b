/-
  Texts of this proof, merged by a program of ours.
-/
import Derived.Test.YtajkakhfcokljaaGreatDoorG19
set_option linter.all false
open List renaming length_append->C36,length_cons->C37
open Nat renaming add_mul->C34,one_mul->C38
open _root_.Go.Value renaming string->C35
namespace Go.Proofs.YtajkakhfcokljaaGreatDoor
open Go
theorem A8y(off:Nat)(l:List Value):∀ (k:Nat) (cs:List Value),off+k+l.length<=cs.length->
 (l.zipIdx k).foldl (fun (a:Array Value) (x:Value × Nat)=>a.setIfInBounds (off+x.2) x.1) cs.toArray=(cs.take (off+k)++l++cs.drop (off+k+l.length)).toArray:=by
 induction l with
 | nil=>intro k cs h;simp
 | cons v l ih=>
  intro k cs h
  simp only [C37] at h
  rw [List.zipIdx_cons,List.foldl_cons,List.setIfInBounds_toArray,ih (k+1) _ (by simp;omega)]
  congr 1
  have h1:(cs.set (off+k) v).take (off+(k+1))=cs.take (off+k)++[v]:=by
   rw [<- Nat.add_assoc,List.take_succ_eq_append_getElem (by simp;omega),List.take_set_of_le (by omega)]
   simp
  have h2:(cs.set (off+k) v).drop (off+(k+1)+l.length)=cs.drop (off+k+(l.length+1)):=by
   rw [List.drop_set_of_lt (by omega)];congr 1;omega
  rw [h1,h2];simp
theorem B6n{size:Nat}(vs:List Value):∀ (k:Nat) (cs:List Value),(∀ v∈vs,v.cells.size=size)->(k+vs.length)*size<=cs.length->
 Instr.fill (fun i=>some (i*size,size)) cs.toArray ((List.range' k vs.length).zip vs)=some (cs.take (k*size)++vs.flatMap (fun v=>v.cells.toList)++cs.drop ((k+vs.length)*size)).toArray:=by
 induction vs with
 | nil=>intro k cs _ h;simp [Instr.fill]
 | cons v vs ih=>
  intro k cs hv h
  have hsz:=hv v (by simp)
  simp only [C37] at h
  have hk:(k+(vs.length+1))*size=k*size+size+vs.length*size:=by rw [C34,C34,C38];omega
  have e0:v.cells.toList.length=size:=by simp [hsz]
  rw [C37,List.range'_succ,List.zip_cons_cons]
  unfold Instr.fill
  simp only
  rw [if_neg (by simp [hsz];omega)]
  have e1:v.cells.zipIdx.foldl (fun cs (x:Value × Nat)=>cs.setIfInBounds (k*size+x.2) x.1) cs.toArray=(cs.take (k*size)++v.cells.toList++cs.drop (k*size+size)).toArray:=by
   have:=A8y (k*size) v.cells.toList 0 cs (by rw [e0];omega)
   rw [e0] at this
   rw [<- Array.foldl_toList,Array.toList_zipIdx]
   simpa using this
  rw [e1,ih (k+1) _ (fun u hu=>hv u (by simp [hu])) (by simp only [C36,List.length_take,List.length_drop,e0];rw [C34,C34,C38];omega)]
  congr 2
  have f1:(cs.take (k*size)).length=k*size:=by rw [List.length_take];omega
  have g1:(k+1)*size=(cs.take (k*size)++v.cells.toList).length:=by rw [C36,f1,e0,C34,C38]
  have g2:(k+1+vs.length)*size=(cs.take (k*size)++v.cells.toList).length+vs.length*size:=by rw [C36,f1,e0,C34,C34,C38]
  rw [g1,List.take_left',g2,List.drop_length_add_append,List.drop_drop,List.flatMap_cons,hk]
  ·simp [List.append_assoc]
  ·rfl
theorem Re{P:Program}{t e:TypeId}{z:Value}{size bytes:Nat}(s:SliceT P t e z size bytes){vs:List Value}(hv:∀ v∈vs,v.cells.size=size){n:Nat}(hn:n=vs.length)(hlen:n*size<=16777216){ps:Array (Nat × Value)}(hp:ps.toList=(List.range' 0 vs.length).zip vs){K:VP}{h:Heap}
 (x:∀ b,h b=none->K (.slice (some ⟨b,0,none⟩) n n) (h.put b (.cells (vs.flatMap (fun v=>v.cells.toList)).toArray e))):wpH P (Instr.buildSlice t n ps) K h:=by
 subst hn
 refine Aw s hlen (cells:=(vs.flatMap (fun v=>v.cells.toList)).toArray) ?_ x
 rw [hp]
 have hl:(F0 z.cells vs.length).toList.length=vs.length*size:=by simp [F0,s.cells]
 have:=B6n vs 0 (F0 z.cells vs.length).toList hv (by rw [hl];simp)
 rw [Array.toArray_toList] at this
 rw [this]
 have h0:(F0 z.cells vs.length).toList.drop ((0+vs.length)*size)=[]:=List.drop_eq_nil_of_le (by rw [hl];simp)
 rw [h0];simp
theorem Xc{P:Program}{t e:TypeId}{z:Value}{bytes:Nat}(s:SliceT P t e z 1 bytes){ls:List (List UInt8)}{n:Nat}(hn:n=ls.length)(hlen:n<=1000){ps:Array (Nat × Value)}(hp:ps.toList=(List.range' 0 (ls.map fun l=>C35 (bs l)).length).zip (ls.map fun l=>C35 (bs l))){K:VP}{h:Heap}
 (x:∀ b h',h.le h'->SlV h' (some ⟨b,0,none⟩) (ls.map fun l=>C35 (bs l))->K (.slice (some ⟨b,0,none⟩) n n) h'):wpH P (Instr.buildSlice t n ps) K h:=by
 refine Re s (vs:=ls.map fun l=>C35 (bs l)) (fun v hv=>?_) (by simpa using hn) (by omega) hp (fun b hb=>x b _ (Heap.le_put _ hb) ?_)
 ·obtain ⟨l,_,rfl⟩:=List.mem_map.1 hv;rfl
 ·have e:∀ ls:List (List UInt8),(ls.map fun l=>C35 (bs l)).flatMap (fun v=>v.cells.toList)=ls.map fun l=>C35 (bs l):=by
   intro ls
   induction ls with
   | nil=>rfl
   | cons l ls ih=>rw [List.map_cons,List.flatMap_cons,ih];rfl
  rw [e]
  exact SlV.new _ b _ _ _ _ (fun i v hv=>by simpa using hv)
end Go.Proofs.YtajkakhfcokljaaGreatDoor
