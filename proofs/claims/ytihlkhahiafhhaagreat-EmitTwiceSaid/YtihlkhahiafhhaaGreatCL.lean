import Derived.Test.YtihlkhahiafhhaaGreatLC
set_option linter.unusedVariables false
section
namespace Go.Ab
open Go.Proofs Go.Proofs.YtihlkhahiafhhaaGreat Go.ChangeShapes Go.WideShapes Go.ChangeAt Go.RowKit
variable {P:Program}
theorem alo {t e:TypeId} (h:P.underlying t=some (.slice e)) (w:World) (d:Nat) (p:Option Addr) (c:Nat):(Op.equalIn (d+1) t (.slice p 0 c) (.slice none 0 0)).run P w=.ok p.isNone w:=by
 cases p<;>simp[Op.equalIn,run_underlying h]
theorem ajC {t e:TypeId} (hu:P.underlying t=some (.slice e)) (w:World) (p:Option Addr) (c:Nat):(binOp .eql t (.slice p 0 c) (.slice none 0 0)).run P w=.ok (.bool p.isNone) w:=by
 simp_all[binOp,Op.equal,Op.maxDepth,alo]
set_option maxRecDepth 100000 in
theorem agT (p:Option Addr) (c:Nat) (w:World):Calls Tryz.prog 44 #[.slice p 0 c] w fun e w'=>(∃p,e=.returned (.slice p 0 0))/\(w'=w\/w'=w.alloc (.cells #[] 3)):=by
 cases p with
 | none=>
  go_enter Tryz.func44,Tryz.ntmps44
  go_wp2
  simp only[ajC Tryz.underlying27,Result.andThen_ok,Oper.upon_value,Option.isNone_none]
  go_wp2
  all_goals go_ret
  all_goals exact ⟨⟨_,rfl⟩,.inl rfl⟩
 | some a=>
  go_enter Tryz.func44,Tryz.ntmps44
  go_wp2
  simp only[ajC Tryz.underlying27,Result.andThen_ok,Oper.upon_value,Option.isNone_some]
  go_wp2
  all_goals go_ret
  all_goals exact ⟨⟨_,rfl⟩,.inr rfl⟩
theorem aip (M:Nat->Nat->Prop) (w:World) (o:Obj):Evo M w (w.alloc o):=
 ⟨rfl,lC,rfl,by simp,fun b q x h _=>by rw[World.cell?_alloc_lt _ _ _ (World.block_lt_of_cell? w _ h)];exact h,fun b hb _=>heap_alloc_old _ _ hb⟩
theorem Wu:aj Tryz.prog 44 0 [SL (cI .i64) []] [] (SL (cI .i64) []) []:=by
 intro F w U vs hp
 obtain ⟨v,rfl⟩:∃v,vs=#[v]:=by
  have:=hp.n
  cases vs with
  | mk l=>cases l with
   | nil=>grind
   | cons v l=>grind
 have hv:=hp.arg 0 v _ rfl rfl
 obtain ⟨p,c,rfl⟩:∃p c,v=.slice p 0 c:=by
  rcases VQ (acr hv) with ⟨b,off,sz',cap,f,e1,_⟩ | ⟨a',cap,e1,_⟩
  all_goals grind
 refine (agT p c w).mono fun e w' he=>?_
 obtain ⟨⟨q,rfl⟩,hw⟩:=he
 refine ⟨_,_,[],U,rfl,⟨rfl,rfl⟩,⟨.d (.emp q 0),fun k o h=>by grind[aH],fun k k' o o' h=>by simp[aH],?_,fun b o h=>.inr h,fun _ _=>rfl,fun r o h=>by grind[aH]⟩⟩
 rcases hw with rfl | rfl
 all_goals simp[Evo.refl,aip]
end Go.Ab
end
section
namespace Go.Ab
open Go.Proofs Go.Proofs.YtihlkhahiafhhaaGreat Go.ChangeShapes Go.WideShapes Go.ChangeAt Go.RowKit
end Go.Ab
end
