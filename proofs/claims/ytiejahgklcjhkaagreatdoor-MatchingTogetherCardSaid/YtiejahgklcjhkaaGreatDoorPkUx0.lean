/- Joined. -/
import Derived.Test.YtiejahgklcjhkaaGreatDoorPkU17
set_option linter.unusedSimpArgs false
set_option linter.unusedVariables false
open Go.Proofs.Tryz renaming prog→zA,f17→zB
open Go
namespace Go.Proofs.YtiejahgklcjhkaaGreatDoor
section
def ioN:List Nat:=[104,97,114,110,101,115,115,32,101,52,49,99,97,57,54,99,54,54,56,50,102,54,55,101,57,51,102,51,48,51,101,48,51,98,57,97,56,54,102,55,97,50,53,102,55,52,99,102,98,55,57,53,57,48,57,52,55,52,55,48,48,102,100,56,48,52,56,55,54,48,53,97,32,99,117,116,32,97,116,32,115,101,108,102,115,116,97,98,47,115,101,108,102,115,116,97,98,108,97,119,50,55,46,67,101,110,116,101,114,77,105,100,100,108,101,32,115,101,108,102,115,116,97,98,47,115,101,108,102,115,116,97,98,108,97,119,50,55,46,67,101,110,116,101,114,82,111,117,110,100,115,32,115,101,108,102,115,116,97,98,47,115,101,108,102,115,116,97,98,108,97,119,50,55,46,67,101,110,116,101,114,82,101,97,99,104,101,115,32,115,101,108,102,115,116,97,98,47,115,101,108,102,115,116,97,98,108,97,119,50,55,46,67,101,110,116,101,114,82,101,115,116,115,32,115,101,108,102,115,116,97,98,47,115,101,108,102,115,116,97,98,108,97,119,50,55,46,67,101,110,116,101,114,65,110,111,110,121,109,111,117,115,32,115,101,108,102,115,116,97,98,47,115,101,108,102,115,116,97,98,108,97,119,50,56,46,69,108,101,99,116,105,111,110,82,101,97,99,104,101,115,32,115,101,108,102,115,116,97,98,47,115,101,108,102,115,116,97,98,108,97,119,50,56,46,69,108,101,99,116,105,111,110,82,101,115,116,115,32,115,101,108,102,115,116,97,98,47,115,101,108,102,115,116,97,98,108,97,119,50,56,46,69,108,101,99,116,105,111,110,67,101,110,116,114,101,32,115,101,108,102,115,116,97,98,47,115,101,108,102,115,116,97,98,108,97,119,50,56,46,69,108,101,99,116,105,111,110,84,111,103,101,116,104,101,114,32,115,101,108,102,115,116,97,98,47,115,101,108,102,115,116,97,98,108,97,119,51,50,46,67,111,108,111,117,114,105,110,103,83,104,114,105,110,107,115,32,115,101,108,102,115,116,97,98,47,115,101,108,102,115,116,97,98,108,97,119,51,50,46,67,111,108,111,117,114,105,110,103,82,101,97,99,104,101,115,32,115,101,108,102,115,116,97,98,47,115,101,108,102,115,116,97,98,108,97,119,51,50,46,67,111,108,111,117,114,105,110,103,82,101,115,116,115,32,115,101,108,102,115,116,97,98,47,115,101,108,102,115,116,97,98,108,97,119,51,48,46,77,97,116,99,104,105,110,103,77,97,120,105,109,97,108,32,115,101,108,102,115,116,97,98,47,115,101,108,102,115,116,97,98,108,97,119,51,48,46,77,97,116,99,104,105,110,103,83,116,97,121,115,32,115,101,108,102,115,116,97,98,47,115,101,108,102,115,116,97,98,108,97,119,51,48,46,77,97,116,99,104,105,110,103,84,111,103,101,116,104,101,114,32,115,101,108,102,115,116,97,98,47,115,101,108,102,115,116,97,98,108,97,119,51,48,46,77,97,116,99,104,105,110,103,82,101,97,99,104,101,115,32,115,101,108,102,115,116,97,98,47,115,101,108,102,115,116,97,98,108,97,119,51,48,46,77,97,116,99,104,105,110,103,82,101,115,116,115,32,115,101,108,102,115,116,97,98,47,115,101,108,102,115,116,97,98,108,97,119,50,54,46,76,101,97,100,101,114,65,110,121,119,104,101,114,101]
theorem ydep:Tryz.prog.initOrder=String.ofList (ioN.map Char.ofNat):=by kernel_rfl
theorem yut:Tryz.prog.initOrder.toList=ioN.map Char.ofNat:=by rw[ydep];exact String.toList_ofList
theorem yctd (P : Program) {l c : List Char} {rest : List (List Char)} (h : P.initOrder.toList = l) (hb : behindMainWord (wordsSigns l) = c :: rest) (h1 : (c == "gc".toList || c == "spec".toList) = false) (h2 : (c == "cut".toList) = true) : P.make = some Make.cut := by
 unfold Program.make;rw[h,hb];simp only[h1,h2];simp
theorem ycbb (P : Program) {l c : List Char} {rest : List (List Char)} (h : P.initOrder.toList = l) (hb : behindMainWord (wordsSigns l) = c :: rest) (e : (stripLifts liftWords (c :: rest)).1 = []) (e2 : ((stripLifts liftWords (c :: rest)).2.head? == some "cut".toList) = true)
 (h1:P.bearsReflect=false) (h2:P.laysLater=false) (h3:P.doorFits []=true):P.mayEnter=true:=by
 unfold Program.mayEnter;rw[h,hb];simp only[e,e2,h1,h2,h3];simp
theorem ydel : behindMainWord (wordsSigns (ioN.map Char.ofNat)) = "cut".toList :: (behindMainWord (wordsSigns (ioN.map Char.ofNat))).tail := by kernel_rfl
theorem yctg:Tryz.prog.make=some Make.cut:=yctd _ yut ydel (by kernel_rfl) (by kernel_rfl)
theorem ybxo:Tryz.prog.mayEnter=true:=ycbb _ yut ydel (by kernel_rfl) (by kernel_rfl) (by kernel_rfl) (by kernel_rfl) (by kernel_rfl)
def ioH:List Nat:=[101,52,49,99,97,57,54,99,54,54,56,50,102,54,55,101,57,51,102,51,48,51,101,48,51,98,57,97,56,54,102,55,97,50,53,102,55,52,99,102,98,55,57,53,57,48,57,52,55,52,55,48,48,102,100,56,48,52,56,55,54,48,53,97]
theorem ycvf : "e41ca96c6682f67e93f303e03b9a86f7a25f74cfb795909474700fd80487605a".toList = ioH.map Char.ofNat := by
 have h : "e41ca96c6682f67e93f303e03b9a86f7a25f74cfb795909474700fd80487605a" = String.ofList (ioH.map Char.ofNat) := by kernel_rfl
 rw[h];exact String.toList_ofList
theorem ycsg (P : Program) {l h s : List Char} {rest : List (List Char)} (hl : P.initOrder.toList = l) (hb : wordsSigns l = h :: s :: rest) (hs : isSumSigns s = true) (hh : (h == "harness".toList) = true) : P.mainIs = some (true, s) := by
 unfold Program.mainIs;rw[hl,hb];simp only[hs,hh];simp
theorem ydfo:wordsSigns (ioN.map Char.ofNat)=([104,97,114,110,101,115,115]:List Nat).map Char.ofNat::ioH.map Char.ofNat::(wordsSigns (ioN.map Char.ofNat)).tail.tail:=by kernel_rfl
theorem ycsc : Tryz.prog.mainIs = some (true, "e41ca96c6682f67e93f303e03b9a86f7a25f74cfb795909474700fd80487605a".toList) := by
 rw[ycvf];exact ycsg _ yut ydfo (by kernel_rfl) (by kernel_rfl)
theorem ybzt:true=Tryz.prog.looks []:=by kernel_rfl
theorem ybzb:Tryz.prog.liftsFinal=false:=by
 unfold Program.liftsFinal Program.headLifts;rw[yut]
 kernel_rfl
end
section
open Go.ChangeShapes Go.WideShapes Go.ChangeAt Go.RowKit Go.Joins Go.WideMaps Go.WideElems
set_option linter.unusedVariables false
theorem yju:(Rows.matchingTogetherRow.inPlace==Tryz.prog.inPlace 17)=true:=by kernel_rfl
theorem ykj:(Rows.matchingTogetherRow.unfollowed==Tryz.prog.unfollowed 17)=true:=by kernel_rfl
theorem ykg:(Rows.matchingTogetherRow.recurses==Tryz.prog.recurses 17)=true:=by kernel_rfl
theorem yjx:(Rows.matchingTogetherRow.named==Tryz.prog.varsNamed 17)=true:=by kernel_rfl
theorem ykd:laidOutB zA=true:=by kernel_rfl
theorem ykc:mapsRowed zA=true:=by kernel_rfl
theorem yft:Tryz.prog.funcNamed Rows.matchingTogetherRow.func=some 17:=by kernel_rfl
theorem ykl:Rows.matchingTogetherRow.wf (OpenSpec.ofChange Rows.matchingTogetherSpec)=true:=by kernel_rfl
theorem yhr:joinedFacts zA 17 zB Rows.matchingTogetherSpec Rows.matchingTogetherRow=true:=by
 unfold joinedFacts
 repeat' (with_reducible refine Bool.and_eq_true_iff.2 ⟨?_,?_⟩)
 all_goals first|(with_reducible exact yju)|(with_reducible exact ykj)|(with_reducible exact ykg)|(with_reducible exact yjx)|(with_reducible exact ykd)|(with_reducible exact ykc)|(with_reducible exact ykl)|(with_reducible exact ybxo)|(rw[ybzb];rfl)|(rw[yctg];rfl)|kernel_rfl
theorem yil:Tryz.f17.isInstance zA Rows.matchingTogetherRow.origin Rows.matchingTogetherRow.targs:=of_decide_eq_true (by kernel_rfl)
theorem yih:Tryz.f17.isWrapper zA Rows.matchingTogetherRow.wrapper Rows.matchingTogetherRow.mainSum:=by
 unfold Func.isWrapper
 first|(rw[if_pos (by decide +kernel)];kernel_rfl)|(rw[if_neg (by decide +kernel)];exact⟨rfl,rfl⟩)
theorem yii:Rows.MatchingTogetherSaid :=
 OpenClaim.holds_of_wide 17 zB rfl rfl rfl rfl rfl rfl rfl ⟨rfl,rfl,rfl,rfl,rfl⟩ rfl rfl rfl rfl rfl yft Tryz.func17 yhr yil yih
  (fun os started H enc _=>yhh os started H enc)
end
end Go.Proofs.YtiejahgklcjhkaaGreatDoor
