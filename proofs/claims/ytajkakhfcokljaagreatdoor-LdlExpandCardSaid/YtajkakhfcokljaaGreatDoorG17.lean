/-
  Texts of this proof, merged by a program of ours.
-/
import Derived.Test.YtajkakhfcokljaaGreatDoorG15
set_option linter.all false
namespace Go.Proofs.YtajkakhfcokljaaGreatDoor
open Go
def Heap.without(h:Heap)(b:Nat):Heap:=fun k=>if k=b then none else h k
theorem Dk(h:Heap)(b:Nat):h.without b b=none:=by simp [Heap.without]
theorem K5{h:Heap}{b:Nat}{o:Obj}(e:h b=some o):(h.without b).put b o=h:=by
 funext k;unfold Heap.put Heap.without
 by_cases hk:k=b
 ·subst hk;simp [e]
 ·simp [hk]
theorem Up{g h':Heap}{b:Nat}{o:Obj}(hb:g b=none)(hl:(g.put b o).le h'):∃ g',g.le g'/\g' b=none/\h'=g'.put b o:=by
 have e:h' b=some o:=hl b o (C3 g b o)
 refine ⟨h'.without b,fun k o' hk=>?_,Dk h' b,(K5 e).symm⟩
 have hne:k≠b:=by rintro rfl;rw [hb] at hk;cases hk
 unfold Heap.without
 rw [if_neg hne]
 exact hl k o' (by rw [B8 _ _ hne];exact hk)
theorem Priv.after{h g h':Heap}{e:TypeId}{s:Nat}{A:Option Addr}{n c:Nat}{xs:List Value}(p:Priv h g e s A n c xs)(hl:h.le h'):∃ g',g.le g'/\Priv h' g' e s A n c xs:=by
 obtain ⟨h1,h2,h3⟩:=p
 rcases h3 with ⟨hc,rfl⟩|⟨b,arr,hA,hb,rfl,h4,h5⟩
 ·exact ⟨h',hl,h1,h2,.inl ⟨hc,rfl⟩⟩
 ·obtain ⟨g',hg,hb',rfl⟩:=Up hb hl
  exact ⟨g',hg,h1,h2,.inr ⟨b,arr,hA,hb',rfl,h4,h5⟩⟩
theorem FCall.shrink{P:Program}{f:FuncId}{args:Array Value}{h:Heap}{K K':VP}(x:FCall P f args h K')(hk:∀ r h',K' r h'->∃ h1,h.le h1/\h1.le h'/\K r h1):FCall P f args h K:=
 fun W hs=>(x W hs).mono fun _ _ ⟨r,h',he,hK,hf⟩=>by
  obtain ⟨h1,_,h2,h3⟩:=hk r h' hK
  refine ⟨r,h1,he,h3,hf.le h2 fun b hb hb1=>?_⟩
  cases e:h1 b with
  | none=>exact absurd e hb1
  | some o=>exact hf.new b o hb (h2 b o e)
theorem FCall.pure{P:Program}{f:FuncId}{args:Array Value}{h:Heap}{K:VP}(x:FCall P f args h (fun r h'=>h.le h'/\K r h)):FCall P f args h K:=
 x.shrink fun _ _ hk=>⟨h,B4 h,hk.1,hk.2⟩
theorem A2r{x y:Int}(hx:0<=x/\x<18446744073709551616)(hy:0<=y/\y<18446744073709551616){x0 x1 y0 y1:Int}(ex:x=x1*4294967296+x0)(ey:y=y1*4294967296+y0)(hx0:0<=x0/\x0<4294967296)(hy0:0<=y0/\y0<4294967296):
 (0<=x0*y0/\x0*y0<=18446744065119617025)/\(0<=x1*y0/\x1*y0<=18446744065119617025)/\(0<=x0*y1/\x0*y1<=18446744065119617025)/\(0<=x1*y1/\x1*y1<=18446744065119617025)/\x*y=x1*y1*18446744073709551616+(x1*y0+x0*y1)*4294967296+x0*y0:=by
 have m:∀ {a b:Int},(0<=a/\a<4294967296)->(0<=b/\b<4294967296)->0<=a*b/\a*b<=18446744065119617025:=by
  intro a b ha hb
  refine ⟨Int.mul_nonneg ha.1 hb.1,?_⟩
  have:=Int.mul_le_mul (show a<=4294967295 by omega) (show b<=4294967295 by omega) hb.1 (by decide)
  omega
 refine ⟨m hx0 hy0,m (by omega) hy0,m hx0 (by omega),m (by omega) (by omega),?_⟩
 rw [ex,ey];grind
end Go.Proofs.YtajkakhfcokljaaGreatDoor
