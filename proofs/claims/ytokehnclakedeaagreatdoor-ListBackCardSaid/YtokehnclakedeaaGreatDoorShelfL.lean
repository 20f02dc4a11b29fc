/- The library's contracts for the texts on lines: all lie in the one laying. -/
import Derived.Test.YtokehnclakedeaaGreatDoorShelf
