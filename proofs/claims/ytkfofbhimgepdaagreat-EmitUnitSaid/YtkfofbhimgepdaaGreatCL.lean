import Derived.Test.YtkfofbhimgepdaaGreatLC
set_option linter.unusedVariables false
section
namespace Go.Ab
open Go.Proofs Go.Proofs.YtkfofbhimgepdaaGreat Go.ChangeShapes Go.WideShapes Go.ChangeAt Go.RowKit
variable {P:Program}
theorem af5 {t e:TypeId} (h:P.underlying t=some (.slice e)) (w:World) (d:Nat) (p:Option Addr) (c:Nat):(Op.equalIn (d+1) t (.slice p 0 c) (.slice none 0 0)).run P w=.ok p.isNone w:=by
 cases p<;>simp[Op.equalIn,run_underlying h]
theorem aeh {t e:TypeId} (hu:P.underlying t=some (.slice e)) (w:World) (p:Option Addr) (c:Nat):(binOp .eql t (.slice p 0 c) (.slice none 0 0)).run P w=.ok (.bool p.isNone) w:=by
 simp_all[binOp,Op.equal,Op.maxDepth,af5]
set_option maxRecDepth 100000 in
theorem acF (p:Option Addr) (c:Nat) (w:World):Calls Tryz.prog 63 #[.slice p 0 c] w fun e w'=>(∃p,e=.returned (.slice p 0 0))/\(w'=w\/w'=w.alloc (.cells #[] 3)):=by
 cases p with
 | none=>
  go_enter Tryz.func63,Tryz.ntmps63
  go_wp2
  simp only[aeh Tryz.underlying23,Result.andThen_ok,Oper.upon_value,Option.isNone_none]
  go_wp2
  all_goals go_ret
  all_goals exact ⟨⟨_,rfl⟩,.inl rfl⟩
 | some a=>
  go_enter Tryz.func63,Tryz.ntmps63
  go_wp2
  simp only[aeh Tryz.underlying23,Result.andThen_ok,Oper.upon_value,Option.isNone_some]
  go_wp2
  all_goals go_ret
  all_goals exact ⟨⟨_,rfl⟩,.inr rfl⟩
theorem adV (M:Nat->Nat->Prop) (w:World) (o:Obj):Evo M w (w.alloc o):=
 ⟨rfl,jf,rfl,by simp,fun b q x h _=>by rw[World.cell?_alloc_lt _ _ _ (World.block_lt_of_cell? w _ h)];exact h,fun b hb _=>heap_alloc_old _ _ hb⟩
theorem abe:au Tryz.prog 63 0 [SL (cI .i64) []] [] (SL (cI .i64) []) []:=by
 intro F w U vs hp
 obtain ⟨v,rfl⟩:∃v,vs=#[v]:=by
  have:=hp.n
  cases vs with
  | mk l=>cases l with
   | nil=>grind
   | cons v l=>grind
 have hv:=hp.arg 0 v _ rfl rfl
 obtain ⟨p,c,rfl⟩:∃p c,v=.slice p 0 c:=by
  rcases QC (Xf hv) with ⟨b,off,sz',cap,f,e1,_⟩ | ⟨a',cap,e1,_⟩
  all_goals grind
 refine (acF p c w).mono fun e w' he=>?_
 obtain ⟨⟨q,rfl⟩,hw⟩:=he
 refine ⟨_,_,[],U,rfl,⟨rfl,rfl⟩,⟨.d (.emp q 0),fun k o h=>by grind[aG],fun k k' o o' h=>by simp[aG],?_,fun b o h=>.inr h,fun _ _=>rfl,fun r o h=>by grind[aG]⟩⟩
 rcases hw with rfl | rfl
 all_goals simp[Evo.refl,adV]
end Go.Ab
end
section
namespace Go.Ab
open Go.Proofs Go.Proofs.YtkfofbhimgepdaaGreat Go.ChangeShapes Go.WideShapes Go.ChangeAt Go.RowKit
end Go.Ab
end
